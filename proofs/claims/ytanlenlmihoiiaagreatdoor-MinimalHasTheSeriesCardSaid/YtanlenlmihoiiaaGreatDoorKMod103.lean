/-
  M, chapter 24: the words whose columns are new: a search by levels, with symbols in front.
-/
import Derived.Test.YtanlenlmihoiiaaGreatDoorKWkO
set_option linter.unusedVariables false
set_option linter.unusedSimpArgs false
namespace Go.AL
open Go Go.BigFrame
def uG (h:List Int->List Int->Rat)(K:List (List Int))(c:Nat->Rat)(l:List Int):Rat:=aW (λi=>c i*h (K.getD i []) l) K.length
structure mG (k:Nat) (h:List Int->List Int->Rat) (K:List (List Int)):Prop where
 ord:K.Pairwise λa b=>qN a b<0
 uN:∀ u,u ∈ K->iy k u
 reach:∀ w,iy k w->∃ c:Nat->Rat,(∀ i,i<K.length->0<qN (K.getD i []) w->c i=0)/\∀ l,iy k l->h w l=uG h K c l
 ind:∀ c:Nat->Rat,(∀ l,iy k l->uG h K c l=0)->∀ i,i<K.length->c i=0
section
variable {k:Nat}{h g:List Int->List Int->Rat}{K K':List (List Int)}{c:Nat->Rat}{u w:List Int}
theorem aG1 {d:Nat->Rat}{l:List Int}:uG h K (λi=>c i-d i) l=uG h K c l-uG h K d l:=by
 unfold uG;rw[aF (g:=λi=>c i*h (K.getD i []) l + -1*(d i*h (K.getD i []) l)) λi _=>by show (c i-d i)*_=_;rw[Rat.sub_eq_add_neg,Rat.add_mul,Rat.neg_mul,Rat.neg_mul,Rat.one_mul],pF,ig,Rat.neg_mul,Rat.one_mul,Rat.sub_eq_add_neg]
theorem WZ {i:Nat}(hi:i<K.length)(l:List Int):uG h K (λj=>if i=j then 1 else 0) l=h (K.getD i []) l:=by
 unfold uG;rw[aF (g:=λj=>if i=j then h (K.getD j []) l else 0) λj _=>by
  show (if i=j then (1:Rat) else 0)*_=_
  split
  .rw[Rat.one_mul]
  .rw[Rat.zero_mul]]
 exact xh (v:=λj=>h (K.getD j []) l) hi
theorem La {i:Nat}(hi:i<K.length):K.getD i [] ∈ K:=getD_mem hi []
theorem mG.only (f:mG k h K){d:Nat->Rat}(e:∀ l,iy k l->uG h K c l=uG h K d l){i:Nat}(hi:i<K.length):c i=d i:=by
 have:=f.ind (λi=>c i-d i) (λl hl=>by rw[aG1,e l hl,Rat.sub_self]) i hi
 exact ZX this
theorem al6 {d:Nat->Nat->Rat}{l:List Int}(e:∀ j,j<K'.length->h (K'.getD j []) l=uG h K (d j) l):uG h K' c l=uG h K (λi=>aW (λj=>c j*d j i) K'.length) l:=by
 have e1:uG h K' c l=aW (λj=>c j*aW (λi=>d j i*h (K.getD i []) l) K.length) K'.length:=aF λj hj=>by rw[e j hj];rfl
 rw[e1];unfold uG;exact (Df c (λj i=>d j i) (λi=>h (K.getD i []) l)).symm
theorem mG.mem_of (f:mG k h K)(f':mG k h K')(hu:u ∈ K):u ∈ K':=by
 refine Decidable.byContradiction λhn=>?_;obtain⟨i,hi,e⟩:=List.mem_iff_getElem.1 hu;have eg:K.getD i []=u:=by rw[iO,lF hi,Option.getD_some,e]
 obtain⟨c,c0,hc⟩:=f'.reach u (f.uN u hu);have ex:∀ j:Nat,∃ d:Nat->Rat,j<K'.length->(∀ i,i<K.length->0<qN (K.getD i []) (K'.getD j [])->d i=0)/\∀ l,iy k l->h (K'.getD j []) l=uG h K d l:=λj=>by
  by_cases hj:j<K'.length
  .obtain⟨d,hd⟩:=f.reach _ (f'.uN _ (La hj));exact⟨d,λ_=>hd⟩
  .exact⟨λ_=>0,λx=>absurd x hj⟩
 obtain⟨d,hd⟩:=Classical.axiomOfChoice ex;have h1:∀ l,iy k l->uG h K (λj=>if i=j then 1 else 0) l=uG h K (λi=>aW (λj=>c j*d j i) K'.length) l:=λl hl=>by
  rw[WZ hi,eg,hc l hl];exact al6 λj hj=>(hd j hj).2 l hl
 have h2:=f.only h1 hi;rw[if_pos rfl] at h2;have h3:aW (λj=>c j*d j i) K'.length=0:=jk λj hj=>by
  by_cases hp:0<qN (K'.getD j []) u
  .rw[c0 j hj hp,Rat.zero_mul]
  .have hne:K'.getD j []≠u:=λe=>hn (e ▸ La hj);have hlt:qN (K'.getD j []) u<0:=RN (by omega) hne
   have hgt:0<qN (K.getD i []) (K'.getD j []):=by
    rw[eg];have:=Gt (K'.getD j []) u;omega
   rw[(hd j hj).1 i hi hgt,Rat.mul_zero]
 rw[h3] at h2;exact absurd h2 (by decide)
theorem mG.unique (f:mG k h K)(f':mG k h K'):K=K':=KR f.ord f'.ord λ_=>⟨f.mem_of f',f'.mem_of f⟩
theorem mG.congr (f:mG k h K)(e:∀ u l,iy k u->iy k l->g u l=h u l):mG k g K:=by
 have el:∀ (c:Nat->Rat) l,iy k l->uG g K c l=uG h K c l:=λc l hl=>aF λi hi=>by rw[e _ l (f.uN _ (La hi)) hl]
 refine⟨f.ord,f.uN,λw hw=>?_,λc hc=>f.ind c λl hl=>by rw[<- el c l hl];exact hc l hl⟩
 obtain⟨c,c0,hc⟩:=f.reach w hw;exact⟨c,c0,λl hl=>by rw[e w l hw hl,hc l hl,el c l hl]⟩
theorem ED (h:iy k w):iy k w.reverse:=λx hx=>h x (List.mem_reverse.1 hx)
theorem mG.rev (f:mG k h K):mG k (λu l=>h u l.reverse) K :=
 ⟨f.ord,f.uN,λw hw=>by
  obtain⟨c,c0,hc⟩:=f.reach w hw;exact⟨c,c0,λl hl=>hc _ (ED hl)⟩,λc hc=>f.ind c λl hl=>by
  have:=hc l.reverse (ED hl);unfold uG at this ⊢
  dsimp only at this
  rw[List.reverse_reverse] at this;exact this⟩
end
section
variable {n k:Nat}{K:List (List Int)}{f:List Int->List Rat}{u:Nat->Rat}{rs:List dh}
theorem YW {p:List Int->Bool}(h:cZ n ((K.filter p).map f) u):∃ c:Nat->Rat,(∀ i,i<K.length->p (K.getD i [])=false->c i=0)/\∀ j,j<n->u j=aW (λi=>c i*(f (K.getD i [])).getD j 0) K.length:=by
 induction h with
 | zero h=>exact⟨λ_=>0,λ_ _ _=>rfl,λj hj=>by rw[h j hj];exact (jk λi _=>Rat.zero_mul _).symm⟩
 | @add u u' b a hb _ h ih =>
  obtain⟨c,c0,hc⟩:=ih;obtain⟨z,hz,rfl⟩:=jH hb;obtain⟨hz1,hz2⟩:=List.mem_filter.1 hz;obtain⟨i0,hi0,e⟩:=List.mem_iff_getElem.1 hz1;have eg:K.getD i0 []=z:=by rw[iO,lF hi0,Option.getD_some,e]
  refine⟨λi=>c i+if i0=i then a else 0,λi hi hp=>?_,λj hj=>?_⟩
  .have hne:i0≠i:=λx=>by rw[<- x,eg,hz2] at hp;cases hp
   show c i+(if i0=i then a else 0)=0
   rw[c0 i hi hp,if_neg hne,Rat.add_zero]
  .rw[h j hj,hc j hj];rw[aF (f:=λi=>(c i+if i0=i then a else 0)*(f (K.getD i [])).getD j 0) (g:=λi=>c i*(f (K.getD i [])).getD j 0+if i0=i then a*(f (K.getD i [])).getD j 0 else 0) λi _=>by
    rw[Rat.add_mul];congr 1
    split
    .rfl
    .rw[Rat.zero_mul],pF,xh (v:=λi=>a*(f (K.getD i [])).getD j 0) hi0,eg]
theorem YX {c:Nat->Rat}{i0:Nat}(h0:c i0=0)(e:∀ j,j<n->u j=aW (λi=>c i*(f (K.getD i [])).getD j 0) K.length):cZ n ((K.eraseIdx i0).map f) u:=by
 have key:∀ t,t<=K.length->cZ n ((K.eraseIdx i0).map f) λj=>aW (λi=>c i*(f (K.getD i [])).getD j 0) t:=by
  intro t
  induction t with
  | zero=>intro _;exact .zero λ_ _=>rfl
  | succ t ih =>
   intro ht;by_cases hti:t=i0
   .refine (ih (by omega)).congr λj _=>?_
    rw[aW,hti,h0,Rat.zero_mul,Rat.add_zero]
   .refine .add (b:=f (K.getD t [])) (c t) (List.mem_map.2 ⟨K.getD t [],?_,rfl⟩) (ih (by omega)) λj _=>by rw[aW]
    refine List.mem_eraseIdx_iff_getElem.2 ⟨t,by omega,hti,?_⟩
    rw[iO,lF (by omega)];rfl
 exact (key K.length (Nat.le_refl _)).congr e
theorem aV5 (e:MI n rs)(hl:rs.length=K.length)(hr:∀ r,r ∈ rs->cZ n (K.map f) (vf r.v)){c:Nat->Rat}(h:∀ j,j<n->aW (λi=>c i*(f (K.getD i [])).getD j 0) K.length=0):∀ i,i<K.length->c i=0:=by
 intro i0 hi0;refine Decidable.byContradiction λhne=>?_;have h1:cZ n ((K.eraseIdx i0).map f) (vf (f (K.getD i0 []))):=by
  refine YX (c:=λi=>if i0=i then 0 else -(1 / c i0)*c i) (if_pos rfl) λj hj=>?_
  have e1:aW (λi=>(if i0=i then 0 else -(1 / c i0)*c i)*(f (K.getD i [])).getD j 0) K.length = -(1 / c i0)*aW (λi=>c i*(f (K.getD i [])).getD j 0) K.length+aW (λi=>if i0=i then (1 / c i0)*c i*(f (K.getD i [])).getD j 0 else 0) K.length:=by
   rw[<- ig,<- pF];refine aF λi _=>?_
   split
   .rw[Rat.zero_mul,Rat.neg_mul,<- Rat.mul_assoc,Rat.neg_add_cancel]
   .rw[Rat.add_zero,Rat.mul_assoc]
  rw[e1,h j hj,Rat.mul_zero,Rat.zero_add,xh (v:=λi=>(1 / c i0)*c i*(f (K.getD i [])).getD j 0) hi0,Rat.div_mul_cancel hne,Rat.one_mul]
 have h2:∀ r,r ∈ rs->cZ n ((K.eraseIdx i0).map f) (vf r.v):=λr hr'=>(hr r hr').trans λb hb=>by
  obtain⟨z,hz,rfl⟩:=jH hb;by_cases hzm:z ∈ K.eraseIdx i0
  .exact .mem (List.mem_map.2 ⟨z,hzm,rfl⟩)
  .obtain⟨t,ht,rfl⟩:=List.mem_iff_getElem.1 hz;have hti:t=i0:=Decidable.byContradiction λhx=>hzm (List.mem_eraseIdx_iff_getElem.2 ⟨t,ht,hx,rfl⟩);subst hti;have eg:K[t]=K.getD t []:=by rw[iO,lF ht];rfl
   rw[eg];exact h1
 have h3:=FB _ rs e h2;rw[dL,List.length_eraseIdx,if_pos hi0] at h3;omega
end
section
variable {m:bQ}{L V V2 K:List (List Int)}{rs r2:List dh}{w u:List Int}
theorem Si (ok:m.Ok)(j:Join (aU m) V L [] rs){l:List Int}(hl:iy m.k l):∃ d:Nat->Rat,∀ u,jW m u l=aW (λq=>d q*jW m u (L.getD q [])) L.length:=by
 obtain⟨d,hd⟩:=KQ ok j hl;refine⟨d,λu=>?_⟩;unfold jW;rw[Uh (n:=m.n) (y:=vf (aZ (aU m) l)) (b:=λq=>vf (aZ (aU m) (L.getD q []))) hd];exact aF λq _=>Rat.mul_comm ..
theorem Ah {q:Nat}(hq:q<L.length):(bG m L u).getD q 0=jW m u (L.getD q []):=aO _ _ hq
theorem L9 {ρ:List Int->List Int}{k:Nat}(hk:m.k=k)(ok:m.Ok)(j:Join (aU m) V L [] r2)(hL:∀ l,l ∈ L->iy k l)
  (ord:K.Pairwise λa b=>qN a b<0) (uN:∀ u,u ∈ K->iy k u) (reach:∀ w,iy k w->cZ L.length ((upTo K w).map λu=>bG m L (ρ u)) (vf (bG m L (ρ w))))
  (e:MI L.length rs) (len:rs.length=K.length) (rows:∀ r,r ∈ rs->cZ L.length (K.map λu=>bG m L (ρ u)) (vf r.v)):mG k (λw l=>jW m (ρ w) l) K:=by
 subst hk;refine⟨ord,uN,λw hw=>?_,λc hc=>?_⟩
 .obtain⟨c,c0,hc⟩:=YW (reach w hw);refine⟨c,λi hi hp=>c0 i hi (decide_eq_false (by omega)),λl hl=>?_⟩
  obtain⟨d,hd⟩:=Si ok j hl;show jW m (ρ w) l=aW (λi=>c i*jW m (ρ (K.getD i [])) l) K.length
  rw[hd (ρ w),aF (g:=λq=>aW (λi=>c i*(bG m L (ρ (K.getD i []))).getD q 0) K.length*d q) λq hq=>by
   rw[Rat.mul_comm,<- Ah hq];exact congrArg (· * d q) (hc q hq),Df]
  refine aF λi _=>?_;rw[hd (ρ (K.getD i []))];congr 1;exact aF λq hq=>by rw[Ah hq,Rat.mul_comm]
 .refine aV5 e len rows λq hq=>?_;have:=hc (L.getD q []) (hL _ (getD_mem hq []));unfold uG at this;refine Eq.trans (aF λi _=>?_) this;rw[Ah hq]
theorem YZ {U:List (List Int)}(ok:m.Ok)(j2:Join (aU m) V2 L [] r2)(ech:MI L.length rs)(rows:∀ r,r ∈ rs->cZ L.length (U.map (bG m L)) (vf r.v))(hU:∀ u,u ∈ U->iy m.k u)
  (all:∀ w,iy m.k w->cZ L.length (pz rs) (vf (bG m L w))):rs.length=EI m.k (kU m):=by
 obtain⟨V,K,r1,j,hK⟩:=WH ok;have hr:=Ij ok j j2 ech (λr hr=>(rows r hr).trans λb hb=>by
   obtain⟨u,hu,rfl⟩:=jH hb;have h2:=j.EO.reach u (hU u hu) λq hq=>by cases hq
   have h3:=h2.map (C:=K.map (bG m L)) (OE m L) λb hb=>by
    obtain⟨z,hz,rfl⟩:=jH hb;refine (cZ.mem (List.mem_map.2 ⟨z,(eY.1 hz).1,rfl⟩)).congr λi hi=>?_;have e:(bG m L z).getD i 0=jW m z (L.getD i []):=aO _ _ hi;exact e.symm
   exact h3.congr λi hi=>aO _ _ hi) λu hu=>all u (hK u hu)
 refine (Jt ?_).symm;have e:FD m.k (kU m)=λ(u l:Wd m.k)=>jW m u.1 l.1:=by
  funext u l;exact (Bv l.1 u.1 l.2).symm
 rw[e];exact hr
end
structure JR (k n B:Nat) (f:List Int->List Rat) (D:List Int->Prop) (K:List (List Int)) (rs:List dh):Prop where
 sp:qU n B rs
 len:rs.length=K.length
 rows:∀ r,r ∈ rs->cZ n (K.map f) (vf r.v)
 kept:∀ u,u ∈ K->cZ n (pz rs) (vf (f u))
 ord:K.Pairwise λa b=>qN a b<0
 uN:∀ u,u ∈ K->iy k u
 tail:∀ s u,s::u ∈ K->u ∈ K
 reach:∀ w,D w->cZ n ((upTo K w).map f) (vf (f w))
section
variable {k n B l i:Nat}{f:List Int->List Rat}{D D':List Int->Prop}{K Lv kept:List (List Int)}{rs:List dh}{c w u:List Int}
theorem JR.weaken (h:JR k n B f D K rs)(hd:∀ w,D' w->D w):JR k n B f D' K rs:=⟨h.sp,h.len,h.rows,h.kept,h.ord,h.uN,h.tail,λw hw=>h.reach w (hd w hw)⟩
theorem JR.start:JR k n B f (λ_=>False) [] []:=⟨qU.nil,rfl,λ_ h=>(by cases h),λ_ h=>(by cases h),List.Pairwise.nil,λ_ h=>(by cases h),λ_ _ h=>(by cases h),λ_ h=>h.elim⟩
theorem JR.grow (h:JR k n B f D K rs)(hfl:(f c).length=n)(h1:1<=B)(hz:∀ i,sz ((f c).getD i 0)<=B)(hc:iy k c)(hlt:∀ u,u ∈ K->qN u c<0)(ht:∀ s u,c=s::u->u ∈ K)(hg:bW rs (f c)=true) :
  JR k n B f (λw=>D w \/ w=c) (K++[c]) (rs++[newR rs (f c)]):=by
 have hs:=CG rs (f c);rw[hfl] at hs;refine⟨h.sp.grow hfl h1 hz hg,by rw[jd,jd,h.len];rfl,λr hr=>?_,λu hu=>?_,?_,λu hu=>?_,λs u hu=>?_,λw hw=>?_⟩
 .rcases ru hr with hr|hr
  .exact (h.rows r hr).mono λb hb=>by
    obtain⟨u,hu,rfl⟩:=jH hb;exact List.mem_map.2 ⟨u,List.mem_append.2 (.inl hu),rfl⟩
  .rw[lV hr];have h1:cZ n ((K++[c]).map f) (vf (f c)):=.mem (List.mem_map.2 ⟨c,List.mem_append.2 (.inr (List.mem_singleton.2 rfl)),rfl⟩);have h2:=(hs.trans λb hb=>by
    obtain⟨r,hr,rfl⟩:=jH hb;exact (h.rows r hr).mono λb hb=>by
     obtain⟨u,hu,rfl⟩:=jH hb;exact List.mem_map.2 ⟨u,List.mem_append.2 (.inl hu),rfl⟩:cZ n ((K++[c]).map f) _)
   refine (h1.plus (h2.smul (-1))).congr λi _=>?_;show (bC rs (f c)).getD i 0=(f c).getD i 0 + -1*((f c).getD i 0-(bC rs (f c)).getD i 0)
   rw[Rat.neg_mul,Rat.one_mul,Rat.neg_sub,Rat.sub_eq_add_neg,Rat.add_comm ((f c).getD i 0),Rat.add_assoc,Rat.neg_add_cancel,Rat.add_zero]
 .rw[Ky];rcases ru hu with hu|hu
  .exact (h.kept u hu).mono λb hb=>List.mem_append.2 (.inl hb)
  .rw[lV hu];have h1:=hs.mono (C:=pz rs++[bC rs (f c)]) λb hb=>List.mem_append.2 (.inl hb);have h2:cZ n (pz rs++[bC rs (f c)]) (vf (bC rs (f c))):=.mem (List.mem_append.2 (.inr (List.mem_singleton.2 rfl)));refine (h1.plus h2).congr λi _=>?_;show (f c).getD i 0=(f c).getD i 0-(bC rs (f c)).getD i 0+(bC rs (f c)).getD i 0
   rw[Rat.sub_add_cancel]
 .refine List.pairwise_append.2 ⟨h.ord,List.pairwise_singleton ..,λa ha b hb=>?_⟩;rw[lV hb];exact hlt a ha
 .rcases ru hu with hu|hu
  .exact h.uN u hu
  .rw[lV hu];exact hc
 .refine List.mem_append.2 (.inl ?_);rcases ru hu with hu|hu
  .exact h.tail s u hu
  .exact ht s u (lV hu).symm
 .rcases hw with hw|rfl
  .exact (h.reach w hw).mono λb hb=>by
    obtain⟨u,hu,rfl⟩:=jH hb;exact List.mem_map.2 ⟨u,QW hu,rfl⟩
  .exact .mem (List.mem_map.2 ⟨w,eY.2 ⟨List.mem_append.2 (.inr (List.mem_singleton.2 rfl)),by rw[Fv];exact Int.le_refl _⟩,rfl⟩)
theorem JR.drop (h:JR k n B f D K rs)(hfl:(f c).length=n)(hlt:∀ u,u ∈ K->qN u c<0)(hg:bW rs (f c)=false):JR k n B f (λw=>D w \/ w=c) K rs :=
 ⟨h.sp,h.len,h.rows,h.kept,h.ord,h.uN,h.tail,λw hw=>by
  rcases hw with hw|rfl
  .exact h.reach w hw
  .refine (((zh h.sp.ech hfl).1 hg).trans (C:=K.map f) λb hb=>?_).mono λb hb=>?_
   .obtain⟨r,hr,rfl⟩:=jH hb;exact h.rows r hr
   .obtain⟨u,hu,rfl⟩:=jH hb;exact List.mem_map.2 ⟨u,eY.2 ⟨hu,Int.le_of_lt (hlt u hu)⟩,rfl⟩⟩
def Iy (k:Nat)(Kl:List (List Int)):List (List Int):=(List.range k).flatMap λs=>Kl.map λr=>((s+1:Nat):Int)::r
theorem EF:c ∈ Iy k K ↔ ∃ s,s<k/\∃ r,r ∈ K/\c=((s+1:Nat):Int)::r:=by
 unfold Iy;rw[List.mem_flatMap];constructor
 .rintro⟨s,hs,hc⟩
  obtain⟨r,hr,rfl⟩:=jH hc;exact⟨s,List.mem_range.1 hs,r,hr,rfl⟩
 .rintro⟨s,hs,r,hr,rfl⟩
  exact⟨s,List.mem_range.2 hs,List.mem_map.2 ⟨r,hr,rfl⟩⟩
theorem Pz {x:Int}{a b:List Int}:qN (x::a) (x::b)=qN a b:=by
 unfold qN;rw[List.length_cons,List.length_cons];by_cases h:a.length=b.length
 .rw[if_neg (show ¬ a.length+1≠b.length+1 by omega),if_neg (show ¬ a.length≠b.length by omega)]
  show (if x<x then (-1:Int) else if x<x then 1 else cmpL a b)=cmpL a b
  rw[if_neg (Int.lt_irrefl x),if_neg (Int.lt_irrefl x)]
 .rw[if_pos (show a.length+1≠b.length+1 by omega),if_pos (show a.length≠b.length by omega)]
  by_cases h2:a.length<b.length
  .rw[if_pos (show a.length+1<b.length+1 by omega),if_pos h2]
  .rw[if_neg (show ¬ a.length+1<b.length+1 by omega),if_neg h2]
theorem W9 {x y:Int}{a b:List Int}(hl:a.length=b.length)(h:x<y):qN (x::a) (y::b)<0:=by
 unfold qN;rw[List.length_cons,List.length_cons,if_neg (by omega)]
 show (if x<y then (-1:Int) else if y<x then 1 else cmpL a b)<0
 rw[if_pos h];decide
theorem Y0 (ho:K.Pairwise λa b=>qN a b<0)(hl:∀ u,u ∈ K->u.length=l):(Iy k K).Pairwise λa b=>qN a b<0:=by
 unfold Iy;refine List.pairwise_flatMap.2 ⟨λs _=>?_,List.pairwise_lt_range.imp λ{s t} hst a ha b hb=>?_⟩
 .refine List.pairwise_map.2 (ho.imp λ{a b} h=>?_);rw[Pz];exact h
 .obtain⟨x,hx,rfl⟩:=jH ha;obtain⟨y,hy,rfl⟩:=jH hb;exact W9 ((hl x hx).trans (hl y hy).symm) (by omega)
structure a01 (k l:Nat) (K Lv:List (List Int)):Prop where
 len:∀ c,c ∈ Lv->c.length=l
 uN:∀ c,c ∈ Lv->iy k c
 tail:∀ c,c ∈ Lv->∀ s u,c=s::u->u ∈ K
 ord:Lv.Pairwise λa b=>qN a b<0
 root:l=0->Lv=[[]]
 all:0<l->∀ u,u ∈ K->u.length+1=l->∀ s,s<k->((s+1:Nat):Int)::u ∈ Lv
structure Lc (k n B:Nat) (f:List Int->List Rat) (l:Nat) (Lv K:List (List Int)) (rs:List dh):Prop where
 s:JR k n B f (λw=>iy k w/\w.length<l) K rs
 short:∀ u,u ∈ K->u.length<l
 lv:a01 k l K Lv
structure JS (k n B:Nat) (f:List Int->List Rat) (l:Nat) (Lv:List (List Int)) (i:Nat) (kept K:List (List Int)) (rs:List dh):Prop where
 s:JR k n B f (λw=>(iy k w/\w.length<l) \/ w ∈ Lv.take i) K rs
 split:∀ u,u ∈ K->u.length<l \/ u ∈ Lv.take i
 ko:kept.Pairwise λa b=>qN a b<0
 km:∀ u,u ∈ kept ↔ u ∈ K/\u.length=l
 lv:a01 k l K Lv
theorem Lc.start:Lc k n B f 0 [[]] [] [] :=
 ⟨JR.start.weaken λw hw=>absurd hw.2 (Nat.not_lt_zero _),λ_ h=>(by cases h),⟨λc hc=>(by rw[lV hc];rfl),λc hc=>(by rw[lV hc];exact λx hx=>by cases hx),λc hc s u e=>(by rw[lV hc] at e;cases e),List.pairwise_singleton ..,λ_=>rfl,λh=>absurd h (Nat.lt_irrefl _)⟩⟩
theorem Lc.begin (h:Lc k n B f l Lv K rs):JS k n B f l Lv 0 [] K rs :=
 ⟨h.s.weaken λw hw=>hw.elim id λh=>(by cases h),λu hu=>.inl (h.short u hu),List.Pairwise.nil,λu=>⟨λh=>(by cases h),λ⟨h1,h2⟩=>by have:=h.short u h1;omega⟩,h.lv⟩
theorem JS.before (h:JS k n B f l Lv i kept K rs)(hi:i<Lv.length):∀ u,u ∈ K->qN u (Lv.getD i [])<0:=λu hu=>by
 have hm:Lv.getD i [] ∈ Lv:=getD_mem hi [];rcases h.split u hu with h1|h1
 .exact Gv (by rw[h.lv.len _ hm];exact h1)
 .obtain⟨t,ht,rfl⟩:=List.mem_iff_getElem.1 h1;rw[List.length_take] at ht;have e:Lv.getD i []=Lv[i]:=by rw[iO,lF hi];rfl
  rw[e,List.getElem_take];exact List.pairwise_iff_getElem.1 h.lv.ord t i (by omega) hi (by omega)
theorem Dk {α:Type}{Lv:List α}{d x:α}{i:Nat}(hi:i<Lv.length):x ∈ Lv.take (i+1) ↔ x ∈ Lv.take i \/ x=Lv.getD i d:=by
 rw[iV d hi,List.mem_append,List.mem_singleton]
theorem JS.yes (h:JS k n B f l Lv i kept K rs)(hi:i<Lv.length)(hfl:(f (Lv.getD i [])).length=n)(h1:1<=B)(hz:∀ j,sz ((f (Lv.getD i [])).getD j 0)<=B)(hg:bW rs (f (Lv.getD i []))=true) :
  JS k n B f l Lv (i+1) (kept++[Lv.getD i []]) (K++[Lv.getD i []]) (rs++[newR rs (f (Lv.getD i []))]):=by
 have hm:Lv.getD i [] ∈ Lv:=getD_mem hi [];have hb:=h.before hi;refine⟨(h.s.grow hfl h1 hz (h.lv.uN _ hm) hb (h.lv.tail _ hm) hg).weaken λw hw=>?_,λu hu=>?_,?_,λu=>?_,⟨h.lv.len,h.lv.uN,λc hc s u e=>List.mem_append.2 (.inl (h.lv.tail c hc s u e)),h.lv.ord,h.lv.root,λhp u hu hul=>?_⟩⟩
 .rcases hw with hw|hw
  .exact .inl (.inl hw)
  .exact ((Dk hi).1 hw).imp .inr id
 .rcases ru hu with hu|hu
  .exact (h.split u hu).imp id λh=>(Dk (d:=[]) hi).2 (.inl h)
  .exact .inr ((Dk hi).2 (.inr (lV hu)))
 .refine List.pairwise_append.2 ⟨h.ko,List.pairwise_singleton ..,λa ha b hb'=>?_⟩;rw[lV hb'];exact hb a ((h.km a).1 ha).1
 .rw[List.mem_append,List.mem_append,h.km,List.mem_singleton];constructor
  .rintro (⟨a,b⟩|rfl)
   .exact⟨.inl a,b⟩
   .exact⟨.inr rfl,h.lv.len _ hm⟩
  .rintro⟨a|rfl,b⟩
   .exact .inl ⟨a,b⟩
   .exact .inr rfl
 .rcases ru hu with hu|hu
  .exact h.lv.all hp u hu hul
  .have:=h.lv.len _ hm;rw[lV hu] at hul;omega
theorem JS.no (h:JS k n B f l Lv i kept K rs)(hi:i<Lv.length)(hfl:(f (Lv.getD i [])).length=n)(hg:bW rs (f (Lv.getD i []))=false):JS k n B f l Lv (i+1) kept K rs :=
  ⟨(h.s.drop hfl (h.before hi) hg).weaken λw hw => by
    rcases hw with hw|hw
    · exact .inl (.inl hw)
    · exact ((Dk hi).1 hw).imp .inr id,λu hu=>(h.split u hu).imp id λh=>(Dk (d:=[]) hi).2 (.inl h),h.ko,h.km,h.lv⟩
def Sj (k n:Nat)(f:List Int->List Rat):Prop:=∃ M:bQ,M.n=n/\M.k=k/\∀ w,iy k w->f w=aZ M w.reverse
theorem Sj.map (hf:Sj k n f){y:List Int}{s:Nat}{C:List (List Rat)}{U:List (List Int)}(hs:s<k)(hy:iy k y)(hU:∀ u,u ∈ U->iy k u)(h:cZ n (U.map f) (vf (f y)))(hC:∀ u,u ∈ U->cZ n C (vf (f (((s+1:Nat):Int)::u)))):cZ n C (vf (f (((s+1:Nat):Int)::y))):=by
 obtain⟨M,rfl,rfl,hM⟩:=hf;have step:∀ u,iy M.k u->∀ j,j<M.n->(f (((s+1:Nat):Int)::u)).getD j 0=aW (λi=>vf (f u) i*iU M s i j) M.n:=λu hu j hj=>by
  have hc:iy M.k (((s+1:Nat):Int)::u):=λx hx=>by
   rcases List.mem_cons.1 hx with rfl|hx
   .omega
   .exact hu x hx
  rw[hM _ hc,hM u hu,List.reverse_cons,iq,show (((s+1:Nat):Int)).toNat-1=s by omega,pK hj]
 have hmap:=h.map (C:=C) (QU M s) λb hb=>by
  obtain⟨u,hu,rfl⟩:=jH hb;exact (hC u hu).congr λj hj=>(step u (hU u hu) j hj).symm
 exact hmap.congr λj hj=>step y hy j hj
theorem JS.done (h:JS k n B f l Lv Lv.length kept K rs)(hf:Sj k n f):Lc k n B f (l+1) (Iy k kept) K rs:=by
 have hkm:∀ u,u ∈ kept->u ∈ K/\u.length=l:=λu hu=>(h.km u).1 hu;have htk:Lv.take Lv.length=Lv:=List.take_length;refine⟨⟨h.s.sp,h.s.len,h.s.rows,h.s.kept,h.s.ord,h.s.uN,h.s.tail,λw hw=>?_⟩,λu hu=>?_,⟨λc hc=>?_,λc hc=>?_,λc hc s u e=>?_,Y0 h.ko λu hu=>(hkm u hu).2,λh0=>(by cases h0),λ_ u hu hul s hs=>EF.2 ⟨s,hs,u,(h.km u).2 ⟨hu,by omega⟩,rfl⟩⟩⟩
 .obtain⟨hwi,hwl⟩:=hw;by_cases hlt:w.length<l
  .exact h.s.reach w (.inl ⟨hwi,hlt⟩)
  .have hl:w.length=l:=by omega
   rcases Nat.eq_zero_or_pos l with h0|h0
   .refine h.s.reach w (.inr ?_);rw[htk,h.lv.root h0,EQ (hl.trans h0)];exact List.mem_singleton.2 rfl
   .have ha:=h.lv.all h0;cases w with
    | nil =>
     have h1:0=l:=hl;omega
    | cons x y =>
     have hx:=hwi x rY;obtain⟨s,hs,rfl⟩:∃ s:Nat,s<k/\x=((s+1:Nat):Int):=⟨x.toNat-1,by omega,by omega⟩
     have hy:iy k y:=λq hq=>hwi q (List.mem_cons_of_mem _ hq);rw[List.length_cons] at hl;refine hf.map hs hy (λu hu=>h.s.uN u (eY.1 hu).1) (h.s.reach y (.inl ⟨hy,by omega⟩)) λu hu=>?_
     obtain⟨hu1,hu2⟩:=eY.1 hu;have hul:=Nc hu2;have hr:cZ n ((upTo K (((s+1:Nat):Int)::u)).map f) (vf (f (((s+1:Nat):Int)::u))):=by
      refine h.s.reach _ ?_;by_cases hc:u.length+1<l
      .refine .inl ⟨λq hq=>?_,by rw[List.length_cons];exact hc⟩
       rcases List.mem_cons.1 hq with rfl|hq
       .omega
       .exact h.s.uN u hu1 q hq
      .refine .inr ?_;rw[htk];exact ha u hu1 (by omega) s hs
     refine hr.mono λb hb=>?_;obtain⟨z,hz,rfl⟩:=jH hb;obtain⟨hz1,hz2⟩:=eY.1 hz;exact List.mem_map.2 ⟨z,eY.2 ⟨hz1,Gu hz2 (by rw[Pz];exact hu2)⟩,rfl⟩
 .rcases h.split u hu with h1|h1
  .omega
  .rw[htk] at h1;have:=h.lv.len u h1;omega
 .obtain⟨s,_,r,hr,rfl⟩:=EF.1 hc;rw[List.length_cons,(hkm r hr).2]
 .obtain⟨s,hs,r,hr,rfl⟩:=EF.1 hc;intro x hx;rcases List.mem_cons.1 hx with rfl|hx
  .omega
  .exact h.s.uN r (hkm r hr).1 x hx
 .obtain⟨s',_,r,hr,e'⟩:=EF.1 hc;rw[e'] at e;cases e
  exact (hkm _ hr).1
theorem Lc.all (h:Lc k n B f l [] K rs)(hf:Sj k n f)(hk:1<=k):∀ (q:Nat) (w:List Int),w.length=q->iy k w->cZ n ((upTo K w).map f) (vf (f w)):=by
 have hl0:l≠0:=λe=>by cases h.lv.root e
 have hno:∀ u,u ∈ K->u.length+1≠l:=λu hu e=>by
  have:=h.lv.all (by omega) u hu e 0 hk
  cases this
 intro q
 induction q with
 | zero =>
  intro w hw hi;exact h.s.reach w ⟨hi,by omega⟩
 | succ q ih =>
  intro w hw hi;cases w with
  | nil=>cases hw
  | cons x y =>
   have hx:=hi x rY;obtain⟨s,hs,rfl⟩:∃ s:Nat,s<k/\x=((s+1:Nat):Int):=⟨x.toNat-1,by omega,by omega⟩
   have hy:iy k y:=λq hq=>hi q (List.mem_cons_of_mem _ hq);rw[List.length_cons] at hw;refine hf.map hs hy (λu hu=>h.s.uN u (eY.1 hu).1) (ih y (by omega) hy) λu hu=>?_
   obtain⟨hu1,hu2⟩:=eY.1 hu;have h1:=h.short u hu1;have h2:=hno u hu1;refine (h.s.reach (((s+1:Nat):Int)::u) ⟨λq hq=>?_,by rw[List.length_cons];omega⟩).mono λb hb=>?_
   .rcases List.mem_cons.1 hq with rfl|hq
    .omega
    .exact h.s.uN u hu1 q hq
   .obtain⟨z,hz,rfl⟩:=jH hb;obtain⟨hz1,hz2⟩:=eY.1 hz;exact List.mem_map.2 ⟨z,eY.2 ⟨hz1,Gu hz2 (by rw[Pz];exact hu2)⟩,rfl⟩

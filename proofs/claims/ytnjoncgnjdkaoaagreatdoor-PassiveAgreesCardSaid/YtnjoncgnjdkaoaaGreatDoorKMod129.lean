/-
  M, chapters 29 and 30: spaces whose rows have 1 at their leads, with their parts.
-/
import Derived.Test.YtnjoncgnjdkaoaaGreatDoorKMod102
set_option linter.unusedVariables false
set_option linter.unusedSimpArgs false
namespace Go.AL
open Go Go.BigFrame
section
variable {m:dP}{L V V2 K:List (List Int)}{rs r2:List bW}{w u:List Int}
theorem ZL (ok:m.Ok)(j:Join (dA m) V L [] rs){l:List Int}(hl:kC m.k l):∃ d:Nat->Rat,∀ u,lZ m u l=aX (λq=>d q*lZ m u (L.getD q [])) L.length:=by
 obtain⟨d,hd⟩:=Jk ok j hl;refine⟨d,λu=>?_⟩;unfold lZ;rw[RD (n:=m.n) (y:=vf (bP (dA m) l)) (b:=λq=>vf (bP (dA m) (L.getD q []))) hd];exact aN λq _=>Rat.mul_comm ..
theorem NS {q:Nat}(hq:q<L.length):(oH m L u).getD q 0=lZ m u (L.getD q []):=aT _ _ hq
theorem JU {ρ:List Int->List Int}{k:Nat}(hk:m.k=k)(ok:m.Ok)(j:Join (dA m) V L [] r2)(hL:∀ l,l ∈ L->kC k l)
  (ord:K.Pairwise λa b=>nO a b<0) (zZ:∀ u,u ∈ K->kC k u) (reach:∀ w,kC k w->bU L.length ((upTo K w).map λu=>oH m L (ρ u)) (vf (oH m L (ρ w))))
  (e:JL L.length rs) (len:rs.length=K.length) (rows:∀ r,r ∈ rs->bU L.length (K.map λu=>oH m L (ρ u)) (vf r.v)):oz k (λw l=>lZ m (ρ w) l) K:=by
 subst hk;refine⟨ord,zZ,λw hw=>?_,λc hc=>?_⟩
 .obtain⟨c,c0,hc⟩:=WS (reach w hw);refine⟨c,λi hi hp=>c0 i hi (decide_eq_false (by omega)),λl hl=>?_⟩
  obtain⟨d,hd⟩:=ZL ok j hl;show lZ m (ρ w) l=aX (λi=>c i*lZ m (ρ (K.getD i [])) l) K.length
  rw[hd (ρ w),aN (g:=λq=>aX (λi=>c i*(oH m L (ρ (K.getD i []))).getD q 0) K.length*d q) λq hq=>by
   rw[Rat.mul_comm,<- NS hq];exact congrArg (· * d q) (hc q hq),EK]
  refine aN λi _=>?_;rw[hd (ρ (K.getD i []))];congr 1;exact aN λq hq=>by rw[NS hq,Rat.mul_comm]
 .refine aE5 e len rows λq hq=>?_;have:=hc (L.getD q []) (hL _ (getD_mem hq []));unfold Ad at this;refine Eq.trans (aN λi _=>?_) this;rw[NS hq]
theorem WU {U:List (List Int)}(ok:m.Ok)(j2:Join (dA m) V2 L [] r2)(ech:JL L.length rs)(rows:∀ r,r ∈ rs->bU L.length (U.map (oH m L)) (vf r.v))(hU:∀ u,u ∈ U->kC m.k u)
  (all:∀ w,kC m.k w->bU L.length (oG rs) (vf (oH m L w))):rs.length=H8 m.k (wV m):=by
 obtain⟨V,K,r1,j,hK⟩:=UH ok;have hr:=Na ok j j2 ech (λr hr=>(rows r hr).trans λb hb=>by
   obtain⟨u,hu,rfl⟩:=mM hb;have h2:=j.Ou.reach u (hU u hu) λq hq=>by cases hq
   have h3:=h2.map (C:=K.map (oH m L)) (MZ m L) λb hb=>by
    obtain⟨z,hz,rfl⟩:=mM hb;refine (bU.mem (List.mem_map.2 ⟨z,(fD.1 hz).1,rfl⟩)).congr λi hi=>?_;have e:(oH m L z).getD i 0=lZ m z (L.getD i []):=aT _ _ hi;exact e.symm
   exact h3.congr λi hi=>aT _ _ hi) λu hu=>all u (hK u hu)
 refine (Nj ?_).symm;have e:FP m.k (wV m)=λ(u l:Wd m.k)=>lZ m u.1 l.1:=by
  funext u l;exact (Ff l.1 u.1 l.2).symm
 rw[e];exact hr
end
structure Il (k n B:Nat) (f:List Int->List Rat) (D:List Int->Prop) (K:List (List Int)) (rs:List bW):Prop where
 sp:uK n B rs
 len:rs.length=K.length
 rows:∀ r,r ∈ rs->bU n (K.map f) (vf r.v)
 kept:∀ u,u ∈ K->bU n (oG rs) (vf (f u))
 ord:K.Pairwise λa b=>nO a b<0
 zZ:∀ u,u ∈ K->kC k u
 tail:∀ s u,s::u ∈ K->u ∈ K
 reach:∀ w,D w->bU n ((upTo K w).map f) (vf (f w))
section
variable {k n B l i:Nat}{f:List Int->List Rat}{D D':List Int->Prop}{K Lv kept:List (List Int)}{rs:List bW}{c w u:List Int}
theorem Il.weaken (h:Il k n B f D K rs)(hd:∀ w,D' w->D w):Il k n B f D' K rs:=⟨h.sp,h.len,h.rows,h.kept,h.ord,h.zZ,h.tail,λw hw=>h.reach w (hd w hw)⟩
theorem Il.start:Il k n B f (λ_=>False) [] []:=⟨uK.nil,rfl,λ_ h=>(by cases h),λ_ h=>(by cases h),List.Pairwise.nil,λ_ h=>(by cases h),λ_ _ h=>(by cases h),λ_ h=>h.elim⟩
theorem Il.grow (h:Il k n B f D K rs)(hfl:(f c).length=n)(h1:1<=B)(hz:∀ i,sz ((f c).getD i 0)<=B)(hc:kC k c)(hlt:∀ u,u ∈ K->nO u c<0)(ht:∀ s u,c=s::u->u ∈ K)(hg:bM rs (f c)=true) :
  Il k n B f (λw=>D w \/ w=c) (K++[c]) (rs++[newR rs (f c)]):=by
 have hs:=BI rs (f c);rw[hfl] at hs;refine⟨h.sp.grow hfl h1 hz hg,by rw[jG,jG,h.len];rfl,λr hr=>?_,λu hu=>?_,?_,λu hu=>?_,λs u hu=>?_,λw hw=>?_⟩
 .rcases ul hr with hr|hr
  .exact (h.rows r hr).mono λb hb=>by
    obtain⟨u,hu,rfl⟩:=mM hb;exact List.mem_map.2 ⟨u,List.mem_append.2 (.inl hu),rfl⟩
  .rw[lW hr];have h1:bU n ((K++[c]).map f) (vf (f c)):=.mem (List.mem_map.2 ⟨c,List.mem_append.2 (.inr (List.mem_singleton.2 rfl)),rfl⟩);have h2:=(hs.trans λb hb=>by
    obtain⟨r,hr,rfl⟩:=mM hb;exact (h.rows r hr).mono λb hb=>by
     obtain⟨u,hu,rfl⟩:=mM hb;exact List.mem_map.2 ⟨u,List.mem_append.2 (.inl hu),rfl⟩:bU n ((K++[c]).map f) _)
   refine (h1.plus (h2.smul (-1))).congr λi _=>?_;show (bg rs (f c)).getD i 0=(f c).getD i 0 + -1*((f c).getD i 0-(bg rs (f c)).getD i 0)
   rw[Rat.neg_mul,Rat.one_mul,Rat.neg_sub,Rat.sub_eq_add_neg,Rat.add_comm ((f c).getD i 0),Rat.add_assoc,Rat.neg_add_cancel,Rat.add_zero]
 .rw[I7];rcases ul hu with hu|hu
  .exact (h.kept u hu).mono λb hb=>List.mem_append.2 (.inl hb)
  .rw[lW hu];have h1:=hs.mono (C:=oG rs++[bg rs (f c)]) λb hb=>List.mem_append.2 (.inl hb);have h2:bU n (oG rs++[bg rs (f c)]) (vf (bg rs (f c))):=.mem (List.mem_append.2 (.inr (List.mem_singleton.2 rfl)));refine (h1.plus h2).congr λi _=>?_;show (f c).getD i 0=(f c).getD i 0-(bg rs (f c)).getD i 0+(bg rs (f c)).getD i 0
   rw[Rat.sub_add_cancel]
 .refine List.pairwise_append.2 ⟨h.ord,List.pairwise_singleton ..,λa ha b hb=>?_⟩;rw[lW hb];exact hlt a ha
 .rcases ul hu with hu|hu
  .exact h.zZ u hu
  .rw[lW hu];exact hc
 .refine List.mem_append.2 (.inl ?_);rcases ul hu with hu|hu
  .exact h.tail s u hu
  .exact ht s u (lW hu).symm
 .rcases hw with hw|rfl
  .exact (h.reach w hw).mono λb hb=>by
    obtain⟨u,hu,rfl⟩:=mM hb;exact List.mem_map.2 ⟨u,Pv hu,rfl⟩
  .exact .mem (List.mem_map.2 ⟨w,fD.2 ⟨List.mem_append.2 (.inr (List.mem_singleton.2 rfl)),by rw[xY];exact Int.le_refl _⟩,rfl⟩)
theorem Il.drop (h:Il k n B f D K rs)(hfl:(f c).length=n)(hlt:∀ u,u ∈ K->nO u c<0)(hg:bM rs (f c)=false):Il k n B f (λw=>D w \/ w=c) K rs :=
 ⟨h.sp,h.len,h.rows,h.kept,h.ord,h.zZ,h.tail,λw hw=>by
  rcases hw with hw|rfl
  .exact h.reach w hw
  .refine (((BM h.sp.ech hfl).1 hg).trans (C:=K.map f) λb hb=>?_).mono λb hb=>?_
   .obtain⟨r,hr,rfl⟩:=mM hb;exact h.rows r hr
   .obtain⟨u,hu,rfl⟩:=mM hb;exact List.mem_map.2 ⟨u,fD.2 ⟨hu,Int.le_of_lt (hlt u hu)⟩,rfl⟩⟩
def NT (k:Nat)(Kl:List (List Int)):List (List Int):=(List.range k).flatMap λs=>Kl.map λr=>((s+1:Nat):Int)::r
theorem DK:c ∈ NT k K ↔ ∃ s,s<k/\∃ r,r ∈ K/\c=((s+1:Nat):Int)::r:=by
 unfold NT;rw[List.mem_flatMap];constructor
 .rintro⟨s,hs,hc⟩
  obtain⟨r,hr,rfl⟩:=mM hc;exact⟨s,List.mem_range.1 hs,r,hr,rfl⟩
 .rintro⟨s,hs,r,hr,rfl⟩
  exact⟨s,List.mem_range.2 hs,List.mem_map.2 ⟨r,hr,rfl⟩⟩
theorem NU {x:Int}{a b:List Int}:nO (x::a) (x::b)=nO a b:=by
 unfold nO;rw[List.length_cons,List.length_cons];by_cases h:a.length=b.length
 .rw[if_neg (show ¬ a.length+1≠b.length+1 by omega),if_neg (show ¬ a.length≠b.length by omega)]
  show (if x<x then (-1:Int) else if x<x then 1 else cmpL a b)=cmpL a b
  rw[if_neg (Int.lt_irrefl x),if_neg (Int.lt_irrefl x)]
 .rw[if_pos (show a.length+1≠b.length+1 by omega),if_pos (show a.length≠b.length by omega)]
  by_cases h2:a.length<b.length
  .rw[if_pos (show a.length+1<b.length+1 by omega),if_pos h2]
  .rw[if_neg (show ¬ a.length+1<b.length+1 by omega),if_neg h2]
theorem UJ {x y:Int}{a b:List Int}(hl:a.length=b.length)(h:x<y):nO (x::a) (y::b)<0:=by
 unfold nO;rw[List.length_cons,List.length_cons,if_neg (by omega)]
 show (if x<y then (-1:Int) else if y<x then 1 else cmpL a b)<0
 rw[if_pos h];decide
theorem WV (ho:K.Pairwise λa b=>nO a b<0)(hl:∀ u,u ∈ K->u.length=l):(NT k K).Pairwise λa b=>nO a b<0:=by
 unfold NT;refine List.pairwise_flatMap.2 ⟨λs _=>?_,List.pairwise_lt_range.imp λ{s t} hst a ha b hb=>?_⟩
 .refine List.pairwise_map.2 (ho.imp λ{a b} h=>?_);rw[NU];exact h
 .obtain⟨x,hx,rfl⟩:=mM ha;obtain⟨y,hy,rfl⟩:=mM hb;exact UJ ((hl x hx).trans (hl y hy).symm) (by omega)
structure aL6 (k l:Nat) (K Lv:List (List Int)):Prop where
 len:∀ c,c ∈ Lv->c.length=l
 zZ:∀ c,c ∈ Lv->kC k c
 tail:∀ c,c ∈ Lv->∀ s u,c=s::u->u ∈ K
 ord:Lv.Pairwise λa b=>nO a b<0
 root:l=0->Lv=[[]]
 all:0<l->∀ u,u ∈ K->u.length+1=l->∀ s,s<k->((s+1:Nat):Int)::u ∈ Lv
structure WW (k n B:Nat) (f:List Int->List Rat) (l:Nat) (Lv K:List (List Int)) (rs:List bW):Prop where
 s:Il k n B f (λw=>kC k w/\w.length<l) K rs
 short:∀ u,u ∈ K->u.length<l
 lv:aL6 k l K Lv
structure OB (k n B:Nat) (f:List Int->List Rat) (l:Nat) (Lv:List (List Int)) (i:Nat) (kept K:List (List Int)) (rs:List bW):Prop where
 s:Il k n B f (λw=>(kC k w/\w.length<l) \/ w ∈ Lv.take i) K rs
 split:∀ u,u ∈ K->u.length<l \/ u ∈ Lv.take i
 ko:kept.Pairwise λa b=>nO a b<0
 km:∀ u,u ∈ kept ↔ u ∈ K/\u.length=l
 lv:aL6 k l K Lv
theorem WW.start:WW k n B f 0 [[]] [] [] :=
 ⟨Il.start.weaken λw hw=>absurd hw.2 (Nat.not_lt_zero _),λ_ h=>(by cases h),⟨λc hc=>(by rw[lW hc];rfl),λc hc=>(by rw[lW hc];exact λx hx=>by cases hx),λc hc s u e=>(by rw[lW hc] at e;cases e),List.pairwise_singleton ..,λ_=>rfl,λh=>absurd h (Nat.lt_irrefl _)⟩⟩
theorem OB.before (h:OB k n B f l Lv i kept K rs)(hi:i<Lv.length):∀ u,u ∈ K->nO u (Lv.getD i [])<0:=λu hu=>by
 have hm:Lv.getD i [] ∈ Lv:=getD_mem hi [];rcases h.split u hu with h1|h1
 .exact BL (by rw[h.lv.len _ hm];exact h1)
 .obtain⟨t,ht,rfl⟩:=List.mem_iff_getElem.1 h1;rw[List.length_take] at ht;have e:Lv.getD i []=Lv[i]:=by rw[ig,lu hi];rfl
  rw[e,List.getElem_take];exact List.pairwise_iff_getElem.1 h.lv.ord t i (by omega) hi (by omega)
theorem BX {α:Type}{Lv:List α}{d x:α}{i:Nat}(hi:i<Lv.length):x ∈ Lv.take (i+1) ↔ x ∈ Lv.take i \/ x=Lv.getD i d:=by
 rw[Gx d hi,List.mem_append,List.mem_singleton]
theorem OB.yes (h:OB k n B f l Lv i kept K rs)(hi:i<Lv.length)(hfl:(f (Lv.getD i [])).length=n)(h1:1<=B)(hz:∀ j,sz ((f (Lv.getD i [])).getD j 0)<=B)(hg:bM rs (f (Lv.getD i []))=true) :
  OB k n B f l Lv (i+1) (kept++[Lv.getD i []]) (K++[Lv.getD i []]) (rs++[newR rs (f (Lv.getD i []))]):=by
 have hm:Lv.getD i [] ∈ Lv:=getD_mem hi [];have hb:=h.before hi;refine⟨(h.s.grow hfl h1 hz (h.lv.zZ _ hm) hb (h.lv.tail _ hm) hg).weaken λw hw=>?_,λu hu=>?_,?_,λu=>?_,⟨h.lv.len,h.lv.zZ,λc hc s u e=>List.mem_append.2 (.inl (h.lv.tail c hc s u e)),h.lv.ord,h.lv.root,λhp u hu hul=>?_⟩⟩
 .rcases hw with hw|hw
  .exact .inl (.inl hw)
  .exact ((BX hi).1 hw).imp .inr id
 .rcases ul hu with hu|hu
  .exact (h.split u hu).imp id λh=>(BX (d:=[]) hi).2 (.inl h)
  .exact .inr ((BX hi).2 (.inr (lW hu)))
 .refine List.pairwise_append.2 ⟨h.ko,List.pairwise_singleton ..,λa ha b hb'=>?_⟩;rw[lW hb'];exact hb a ((h.km a).1 ha).1
 .rw[List.mem_append,List.mem_append,h.km,List.mem_singleton];constructor
  .rintro (⟨a,b⟩|rfl)
   .exact⟨.inl a,b⟩
   .exact⟨.inr rfl,h.lv.len _ hm⟩
  .rintro⟨a|rfl,b⟩
   .exact .inl ⟨a,b⟩
   .exact .inr rfl
 .rcases ul hu with hu|hu
  .exact h.lv.all hp u hu hul
  .have:=h.lv.len _ hm;rw[lW hu] at hul;omega
theorem OB.no (h:OB k n B f l Lv i kept K rs)(hi:i<Lv.length)(hfl:(f (Lv.getD i [])).length=n)(hg:bM rs (f (Lv.getD i []))=false):OB k n B f l Lv (i+1) kept K rs :=
  ⟨(h.s.drop hfl (h.before hi) hg).weaken λw hw => by
    rcases hw with hw|hw
    · exact .inl (.inl hw)
    · exact ((BX hi).1 hw).imp .inr id,λu hu=>(h.split u hu).imp id λh=>(BX (d:=[]) hi).2 (.inl h),h.ko,h.km,h.lv⟩
def UK (k n:Nat)(f:List Int->List Rat):Prop:=∃ M:dP,M.n=n/\M.k=k/\∀ w,kC k w->f w=bP M w.reverse
theorem UK.map (hf:UK k n f){y:List Int}{s:Nat}{C:List (List Rat)}{U:List (List Int)}(hs:s<k)(hy:kC k y)(hU:∀ u,u ∈ U->kC k u)(h:bU n (U.map f) (vf (f y)))(hC:∀ u,u ∈ U->bU n C (vf (f (((s+1:Nat):Int)::u)))):bU n C (vf (f (((s+1:Nat):Int)::y))):=by
 obtain⟨M,rfl,rfl,hM⟩:=hf;have step:∀ u,kC M.k u->∀ j,j<M.n->(f (((s+1:Nat):Int)::u)).getD j 0=aX (λi=>vf (f u) i*oq M s i j) M.n:=λu hu j hj=>by
  have hc:kC M.k (((s+1:Nat):Int)::u):=λx hx=>by
   rcases List.mem_cons.1 hx with rfl|hx
   .omega
   .exact hu x hx
  rw[hM _ hc,hM u hu,List.reverse_cons,lm,show (((s+1:Nat):Int)).toNat-1=s by omega,BK hj]
 have hmap:=h.map (C:=C) (Po M s) λb hb=>by
  obtain⟨u,hu,rfl⟩:=mM hb;exact (hC u hu).congr λj hj=>(step u (hU u hu) j hj).symm
 exact hmap.congr λj hj=>step y hy j hj
theorem OB.done (h:OB k n B f l Lv Lv.length kept K rs)(hf:UK k n f):WW k n B f (l+1) (NT k kept) K rs:=by
 have hkm:∀ u,u ∈ kept->u ∈ K/\u.length=l:=λu hu=>(h.km u).1 hu;have htk:Lv.take Lv.length=Lv:=List.take_length;refine⟨⟨h.s.sp,h.s.len,h.s.rows,h.s.kept,h.s.ord,h.s.zZ,h.s.tail,λw hw=>?_⟩,λu hu=>?_,⟨λc hc=>?_,λc hc=>?_,λc hc s u e=>?_,WV h.ko λu hu=>(hkm u hu).2,λh0=>(by cases h0),λ_ u hu hul s hs=>DK.2 ⟨s,hs,u,(h.km u).2 ⟨hu,by omega⟩,rfl⟩⟩⟩
 .obtain⟨hwi,hwl⟩:=hw;by_cases hlt:w.length<l
  .exact h.s.reach w (.inl ⟨hwi,hlt⟩)
  .have hl:w.length=l:=by omega
   rcases Nat.eq_zero_or_pos l with h0|h0
   .refine h.s.reach w (.inr ?_);rw[htk,h.lv.root h0,IK (hl.trans h0)];exact List.mem_singleton.2 rfl
   .have ha:=h.lv.all h0;cases w with
    | nil =>
     have h1:0=l:=hl;omega
    | cons x y =>
     have hx:=hwi x uZ;obtain⟨s,hs,rfl⟩:∃ s:Nat,s<k/\x=((s+1:Nat):Int):=⟨x.toNat-1,by omega,by omega⟩
     have hy:kC k y:=λq hq=>hwi q (List.mem_cons_of_mem _ hq);rw[List.length_cons] at hl;refine hf.map hs hy (λu hu=>h.s.zZ u (fD.1 hu).1) (h.s.reach y (.inl ⟨hy,by omega⟩)) λu hu=>?_
     obtain⟨hu1,hu2⟩:=fD.1 hu;have hul:=HY hu2;have hr:bU n ((upTo K (((s+1:Nat):Int)::u)).map f) (vf (f (((s+1:Nat):Int)::u))):=by
      refine h.s.reach _ ?_;by_cases hc:u.length+1<l
      .refine .inl ⟨λq hq=>?_,by rw[List.length_cons];exact hc⟩
       rcases List.mem_cons.1 hq with rfl|hq
       .omega
       .exact h.s.zZ u hu1 q hq
      .refine .inr ?_;rw[htk];exact ha u hu1 (by omega) s hs
     refine hr.mono λb hb=>?_;obtain⟨z,hz,rfl⟩:=mM hb;obtain⟨hz1,hz2⟩:=fD.1 hz;exact List.mem_map.2 ⟨z,fD.2 ⟨hz1,E9 hz2 (by rw[NU];exact hu2)⟩,rfl⟩
 .rcases h.split u hu with h1|h1
  .omega
  .rw[htk] at h1;have:=h.lv.len u h1;omega
 .obtain⟨s,_,r,hr,rfl⟩:=DK.1 hc;rw[List.length_cons,(hkm r hr).2]
 .obtain⟨s,hs,r,hr,rfl⟩:=DK.1 hc;intro x hx;rcases List.mem_cons.1 hx with rfl|hx
  .omega
  .exact h.s.zZ r (hkm r hr).1 x hx
 .obtain⟨s',_,r,hr,e'⟩:=DK.1 hc;rw[e'] at e;cases e
  exact (hkm _ hr).1
theorem WW.all (h:WW k n B f l [] K rs)(hf:UK k n f)(hk:1<=k):∀ (q:Nat) (w:List Int),w.length=q->kC k w->bU n ((upTo K w).map f) (vf (f w)):=by
 have hl0:l≠0:=λe=>by cases h.lv.root e
 have hno:∀ u,u ∈ K->u.length+1≠l:=λu hu e=>by
  have:=h.lv.all (by omega) u hu e 0 hk
  cases this
 intro q
 induction q with
 | zero =>
  intro w hw hi;exact h.s.reach w ⟨hi,by omega⟩
 | succ q ih =>
  intro w hw hi;cases w with
  | nil=>cases hw
  | cons x y =>
   have hx:=hi x uZ;obtain⟨s,hs,rfl⟩:∃ s:Nat,s<k/\x=((s+1:Nat):Int):=⟨x.toNat-1,by omega,by omega⟩
   have hy:kC k y:=λq hq=>hi q (List.mem_cons_of_mem _ hq);rw[List.length_cons] at hw;refine hf.map hs hy (λu hu=>h.s.zZ u (fD.1 hu).1) (ih y (by omega) hy) λu hu=>?_
   obtain⟨hu1,hu2⟩:=fD.1 hu;have h1:=h.short u hu1;have h2:=hno u hu1;refine (h.s.reach (((s+1:Nat):Int)::u) ⟨λq hq=>?_,by rw[List.length_cons];omega⟩).mono λb hb=>?_
   .rcases List.mem_cons.1 hq with rfl|hq
    .omega
    .exact h.s.zZ u hu1 q hq
   .obtain⟨z,hz,rfl⟩:=mM hb;obtain⟨hz1,hz2⟩:=fD.1 hz;exact List.mem_map.2 ⟨z,fD.2 ⟨hz1,E9 hz2 (by rw[NU];exact hu2)⟩,rfl⟩
end
section
variable {m:dP}{B l:Nat}{y z:Ye}{K:List (List Int)}{rs:List bW}
structure WX (m mv:dP):Prop where
 n:mv.n=(NR (dA m)).length
 k:mv.k=m.k
 ok:mv.Ok
 vec:∀ w,kC m.k w->bP mv w=oH m (NR (dA m)) w
 wt:∀ w,kC m.k w->wV mv w=wV m w
theorem aE6 (ok:m.Ok)(h:pK (dA m) B [] z):∃ mv,WX m mv:=by
 obtain⟨V,j,_⟩:=h.join;have hw:=h.zZ;rw[h.bas] at j hw;rw[tu] at hw;obtain⟨mv,h1,h2,h3,h4,h5⟩:=ZJ ok j hw;exact⟨mv,h1,h2,h3,h4,h5⟩
theorem pK.first (ok:m.Ok)(h:pK (dA m) B [] z){mv:dP}(v:WX m mv)(hy:pK mv B [] y):oz m.k (λu l=>wV m (u++l)) y.ks:=by
 obtain⟨V2,j2,_⟩:=h.join;obtain⟨V,j,_⟩:=hy.join;have hw:=h.zZ;rw[h.bas] at j2 hw;rw[tu] at hw;have inw:∀ u,u ∈ y.ks->kC m.k u:=λu hu=>by rw[<- v.k];exact hy.zZ u hu
 have f:=JU (ρ:=id) (K:=y.ks) (rs:=y.rs) rfl ok j2 hw hy.ord inw (λw hw=>by
   have h1:=j.Ou.reach w (by rw[v.k];exact hw) λq hq=>by cases hq
   rw[v.n,v.vec w hw] at h1;refine h1.mono λb hb=>?_;obtain⟨u,hu,rfl⟩:=mM hb;exact List.mem_map.2 ⟨u,hu,(v.vec u (inw u (fD.1 hu).1)).symm⟩) (by rw[<- v.n];exact j.ech) j.len λr hr=>by
   have h1:=j.rows r hr;rw[v.n] at h1;refine h1.mono λb hb=>?_;obtain⟨u,hu,rfl⟩:=mM hb;exact List.mem_map.2 ⟨u,hu,(v.vec u (inw u hu)).symm⟩
 refine f.rev.congr λu l _ hl=>?_;show wV m (u++l)=lZ m u l.reverse
 rw[Ff l.reverse u (FC hl),List.reverse_reverse]
theorem pK.rank (ok:m.Ok)(h:pK (dA m) B [] z){mv:dP}(v:WX m mv)(hy:pK mv B [] y):y.ks.length=H8 m.k (wV m):=by
 obtain⟨V2,j2,_⟩:=h.join;rw[h.bas] at j2;exact UI ok j2 v.n v.k v.vec hy
theorem ZM (ho:K.Pairwise λa b=>nO a b<0)(hp:∀ u,u ∈ K->u≠[]->∃ x,x ∈ K/\x.length+1=u.length):∀ (q i:Nat) (hi:i<K.length),K[i].length=q->q<=i:=by
 intro q
 induction q with
 | zero=>intro i _ _;exact Nat.zero_le _
 | succ q ih =>
  intro i hi hq;obtain⟨x,hx,hxl⟩:=hp K[i] (List.getElem_mem hi) λe=>by rw[e] at hq;cases hq
  obtain⟨t,ht,rfl⟩:=List.mem_iff_getElem.1 hx;have h1:=ih t ht (by omega)
  have h2:t<i:=by
   rcases Nat.lt_trichotomy t i with g|g|g
   .exact g
   .subst g;omega
   .have h3:=List.pairwise_iff_getElem.1 ho i t hi ht g;have h4:=HY (Int.le_of_lt h3);omega
  omega
theorem JV (ho:K.Pairwise λa b=>nO a b<0)(hp:∀ u,u ∈ K->u≠[]->∃ x,x ∈ K/\x.length+1=u.length):∀ u,u ∈ K->u.length<K.length:=λu hu=>by
 obtain⟨i,hi,rfl⟩:=List.mem_iff_getElem.1 hu;exact Nat.lt_of_le_of_lt (ZM ho hp _ i hi rfl) hi
theorem pK.short (h:pK m B [] y):∀ u,u ∈ y.ks->u.length<y.ks.length:=JV h.ord λu hu hne=>⟨u.dropLast,h.closed hu hne,by
 have:=List.length_pos_iff.2 hne;rw[List.length_dropLast];omega⟩
structure ZN (m:dP) (K:List (List Int)):Prop where
 first:oz m.k (λw l=>wV m (l++w)) K
 tail:∀ s u,s::u ∈ K->u ∈ K
 rank:K.length=H8 m.k (wV m)
theorem ZN.unique {K':List (List Int)}(h:ZN m K)(h':ZN m K'):K=K':=h.first.unique h'.first
theorem ZN.short (h:ZN m K):∀ u,u ∈ K->u.length<K.length:=JV h.first.ord λu hu hne=>by
 cases u with
 | nil=>exact absurd rfl hne
 | cons s u=>exact⟨u,h.tail s u hu,rfl⟩
noncomputable abbrev an1 (m:dP):List Int->List Rat:=λw=>oH (dA m) (NR (dA (dA m))) w.reverse
theorem ZO (ok:m.Ok)(h:pK (dA (dA m)) B [] z):UK m.k (NR (dA (dA m))).length (an1 m):=by
 obtain⟨mv,v⟩:=aE6 (Ro ok) h;exact⟨mv,v.n,v.k.trans tu,λw hw=>(v.vec w.reverse (by rw[tu];exact FC hw)).symm⟩
theorem WW.fin (ok:m.Ok)(hk:1<=m.k)(h:pK (dA (dA m)) B [] z)(s:WW m.k (NR (dA (dA m))).length B (an1 m) l [] K rs):ZN m K:=by
 have hf:=ZO ok h;have all:=s.all hf hk;have reach:∀ w,kC m.k w->bU (NR (dA (dA m))).length ((upTo K w).map (an1 m)) (vf (an1 m w)):=λw hw=>all w.length w rfl hw;obtain⟨V2,j2,_⟩:=h.join;have hw:=h.zZ;rw[h.bas] at j2 hw;rw[tu,tu] at hw;have f:=JU (m:=dA m) (ρ:=List.reverse) (K:=K) (rs:=rs) (k:=m.k) tu (Ro ok) j2 hw s.s.ord s.s.zZ reach s.s.sp.ech s.s.len s.s.rows;refine⟨f.congr λw l hw hl=>?_,s.s.tail,?_⟩
 .show wV m (l++w)=lZ (dA m) w.reverse l
  rw[Ff l w.reverse (by rw[tu];exact hl),X7 λx hx=>?_]
  .rw[List.reverse_append,List.reverse_reverse,List.reverse_reverse]
  .rcases ul hx with hx|hx
   .exact hw x (List.mem_reverse.1 hx)
   .exact hl x (List.mem_reverse.1 hx)
 .rw[<- s.s.len];have hr:=WU (m:=dA m) (U:=K.map List.reverse) (Ro ok) j2 s.s.sp.ech (λr hr=>by
    have h1:=s.s.rows r hr;rw[List.map_map];exact h1) (λu hu=>by
    obtain⟨x,hx,rfl⟩:=mM hu;rw[tu];exact FC (s.s.zZ x hx)) λw hw=>by
    rw[tu] at hw;have h1:=reach w.reverse (FC hw);rw[show an1 m w.reverse=oH (dA m) (NR (dA (dA m))) w by show oH _ _ w.reverse.reverse=_;rw[List.reverse_reverse]] at h1
    refine h1.trans λb hb=>?_;obtain⟨u,hu,rfl⟩:=mM hb;exact s.s.kept u (fD.1 hu).1
  rw[hr];have h1:=Px (dA m);rw[tu,Zn (g:=λw=>wV m w.reverse) λw hw=>X7 hw] at h1;have h2:=Zo (Px m) h1;rw[tu];exact h2
def fV (s:List Int->Rat)(S:List (List Int))(u:List Int):List Rat:=S.map λw=>s (u++w)
theorem Qi {s:List Int->Rat}{S:List (List Int)}{u:List Int}{j:Nat}(hj:j<S.length):(fV s S u).getD j 0=s (u++S.getD j []):=by
 unfold fV;rw[ig,List.getElem?_map,lu hj,ig,lu hj];rfl
def NV (vs:List (List Rat)):List bW:=vs.foldl wB []
theorem NW {vs:List (List Rat)}{v:List Rat}:NV (vs++[v])=wB (NV vs) v:=by unfold NV;rw[List.foldl_append];rfl
theorem UL {n:Nat}(h1:1<=B):∀ (vs:List (List Rat)),(∀ v,v ∈ vs->v.length=n)->(∀ v,v ∈ vs->∀ i,sz (v.getD i 0)<=B)->uK n B (NV vs)/\ND n vs (NV vs)/\∀ r,r ∈ NV vs->r.p=iP r.v:=by
 intro vs
 induction hq:vs.length generalizing vs with
 | zero=>intro _ _;rw[IK hq];exact⟨uK.nil,ND.nil,λ_ h=>by cases h⟩
 | succ q ih =>
  intro hl hz;obtain⟨P,x,rfl⟩:∃ u x,vs=u++[x]:=⟨vs.dropLast,vs.getLast (λh=>by rw[h] at hq;cases hq),(List.dropLast_concat_getLast _).symm⟩
  rw[jG,oU] at hq;have hx:=hl x (List.mem_append.2 (.inr (List.mem_singleton.2 rfl)));obtain⟨a,b,c⟩:=ih P (by omega) (λv hv=>hl v (List.mem_append.2 (.inl hv))) (λv hv=>hz v (List.mem_append.2 (.inl hv)))
  rw[NW];exact⟨a.add hx h1 (hz x (List.mem_append.2 (.inr (List.mem_singleton.2 rfl)))),b.add a.ech hx,am5 c⟩
end
open Classical in
noncomputable def bm5 (m:dP):List (List Int):=if h:∃ K,oz m.k (λu l=>wV m (u++l)) K then h.choose else []
end Go.AL
namespace Go.AL
open Go Go.BigFrame
section
variable {k n B l i:Nat}{f:List Int->List Rat}{Lv kept K:List (List Int)}{rs:List bW}{m:dP}{e:Nat}
structure bA6 (m:dP) (K:List (List Int)):Prop where
 first:oz m.k (λu l=>wV m (u++l)) K
 init:∀ u,u ∈ K->u≠[]->u.dropLast ∈ K
 rank:K.length=H8 m.k (wV m)
 short:∀ u,u ∈ K->u.length<K.length
theorem oz.lt {h:List Int->List Int->Rat}(f:oz k h K){j:Nat}(hj:j<K.length)(h0:0<j):nO (K.getD (j-1) []) (K.getD j [])<0:=by
 have h1:=List.pairwise_iff_getElem.1 f.ord (j-1) j (by omega) hj (by omega)
 rw[ig,ig,lu (by omega),lu hj]
 exact h1
end
def mg (r:bW):List Rat:=r.c.map λx=>x / r.v.getD r.p 0
def minL (a b:List Rat)(c:Rat):List Rat:=uY a (λj=>a.getD j 0-c*b.getD j 0) b.length
section
variable {r:bW}{w t a b:List Rat}{c:Rat}{i:Nat}
theorem Jo:(mg r).length=r.c.length:=dJ ..
theorem FD (i:Nat):(mg r).getD i 0=r.c.getD i 0 / r.v.getD r.p 0:=by
 unfold mg;rcases Nat.lt_or_ge i r.c.length with h|h
 .rw[ig,List.getElem?_map,lu h,getD_lt h];rfl
 .rw[ig,List.getElem?_map,List.getElem?_eq_none h,Ai (l:=r.c) h];show (0:Rat)=0 / _
  rw[Rat.div_def,Rat.zero_mul]
theorem aE7 (h0:r.v.getD r.p 0≠0)(hl:r.v.length=w.length):minL w (oJ r) (w.getD r.p 0)=jl w r:=by
 rw[<- WR h0];unfold minL;exact EG λj h1 h2=>by rw[FB] at h1;omega
theorem aE8 (h0:r.v.getD r.p 0≠0):minL t (mg r) (-(w.getD r.p 0))=FO t (jZ w r) r.c:=by
 have e:∀ j,t.getD j 0 - -(w.getD r.p 0)*(mg r).getD j 0=t.getD j 0+jZ w r*r.c.getD j 0:=λj=>by
  rw[FD,jZ,Rat.sub_eq_add_neg,Rat.neg_mul,Rat.neg_neg,Rat.div_def,Rat.div_def,<- Rat.mul_assoc,Rat.mul_assoc _ (r.c.getD j 0),Rat.mul_comm (r.c.getD j 0),Rat.mul_assoc]
 unfold minL;rw[show (λj=>t.getD j 0 - -(w.getD r.p 0)*(mg r).getD j 0)=λj=>t.getD j 0+jZ w r*r.c.getD j 0 from funext e]
 exact EG λj h1 _=>by rw[Jo] at h1;rw[wX h1,Rat.mul_zero,Rat.add_zero]
end
section
variable {rs:List bW}{v:List Rat}{k i:Nat}
theorem an2 {r:bW}{B:Nat}(hv:∀ i,sz (r.v.getD i 0)<=B)(hc:∀ i,sz (r.c.getD i 0)<=B)(i:Nat):sz ((mg r).getD i 0)<=B+B:=by
 rw[FD];have h1:=MI (r.c.getD i 0) (r.v.getD r.p 0);have h2:=hv r.p;have h3:=hc i;omega
theorem Io:(∀ i,i<v.length->(bg rs v).getD i 0=0) ↔ bM rs v=false:=by
 have hl:=pz rs v;unfold bM;constructor
 .intro h;refine decide_eq_false λhlt=>yO hlt (h _ (by omega))
 .intro h i hi;have hn:=nS h;exact ug (by have:=Fa (bg rs v);omega)

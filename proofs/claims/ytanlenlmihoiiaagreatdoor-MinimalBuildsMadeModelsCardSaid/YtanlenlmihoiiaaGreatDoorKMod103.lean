/-
  M, chapter 24: the words whose columns are new: a search by levels, with symbols in front.
-/
import Derived.Test.YtanlenlmihoiiaaGreatDoorKMod102
set_option linter.unusedVariables false
set_option linter.unusedSimpArgs false
namespace Go.AL
open Go Go.BigFrame
section
variable {m:bV}{L V V2 K:List (List Int)}{rs r2:List bZ}{w u:List Int}
theorem Lu (ok:m.Ok)(j:Join (aA m) V L [] rs){l:List Int}(hl:iV m.k l):∃ d:Nat->Rat,∀ u,jP m u l=bD (λq=>d q*jP m u (L.getD q [])) L.length:=by
 obtain⟨d,hd⟩:=Lh ok j hl;refine⟨d,λu=>?_⟩;unfold jP;rw[U1 (n:=m.n) (y:=vf (bF (aA m) l)) (b:=λq=>vf (bF (aA m) (L.getD q []))) hd];exact aJ λq _=>Rat.mul_comm ..
theorem xg {q:Nat}(hq:q<L.length):(aZ m L u).getD q 0=jP m u (L.getD q []):=aT _ _ hq
theorem MV {ρ:List Int->List Int}{k:Nat}(hk:m.k=k)(ok:m.Ok)(j:Join (aA m) V L [] r2)(hL:∀ l,l ∈ L->iV k l)
  (ord:K.Pairwise λa b=>mG a b<0) (vF:∀ u,u ∈ K->iV k u) (reach:∀ w,iV k w->dh L.length ((upTo K w).map λu=>aZ m L (ρ u)) (vf (aZ m L (ρ w))))
  (e:Np L.length rs) (len:rs.length=K.length) (rows:∀ r,r ∈ rs->dh L.length (K.map λu=>aZ m L (ρ u)) (vf r.v)):l7 k (λw l=>jP m (ρ w) l) K:=by
 subst hk;refine⟨ord,vF,λw hw=>?_,λc hc=>?_⟩
 .obtain⟨c,c0,hc⟩:=Zn (reach w hw);refine⟨c,λi hi hp=>c0 i hi (decide_eq_false (by omega)),λl hl=>?_⟩
  obtain⟨d,hd⟩:=Lu ok j hl;show jP m (ρ w) l=bD (λi=>c i*jP m (ρ (K.getD i [])) l) K.length
  rw[hd (ρ w),aJ (g:=λq=>bD (λi=>c i*(aZ m L (ρ (K.getD i []))).getD q 0) K.length*d q) λq hq=>by
   rw[Rat.mul_comm,<- xg hq];exact congrArg (· * d q) (hc q hq),Gl]
  refine aJ λi _=>?_;rw[hd (ρ (K.getD i []))];congr 1;exact aJ λq hq=>by rw[xg hq,Rat.mul_comm]
 .refine aV4 e len rows λq hq=>?_;have:=hc (L.getD q []) (hL _ (getD_mem hq []));unfold y8 at this;refine Eq.trans (aJ λi _=>?_) this;rw[xg hq]
theorem Zp {U:List (List Int)}(ok:m.Ok)(j2:Join (aA m) V2 L [] r2)(ech:Np L.length rs)(rows:∀ r,r ∈ rs->dh L.length (U.map (aZ m L)) (vf r.v))(hU:∀ u,u ∈ U->iV m.k u)
  (all:∀ w,iV m.k w->dh L.length (o9 rs) (vf (aZ m L w))):rs.length=Ih m.k (yH m):=by
 obtain⟨V,K,r1,j,hK⟩:=Xp ok;have hr:=Pq ok j j2 ech (λr hr=>(rows r hr).trans λb hb=>by
   obtain⟨u,hu,rfl⟩:=kK hb;have h2:=j.Kz.reach u (hU u hu) λq hq=>by cases hq
   have h3:=h2.map (C:=K.map (aZ m L)) (Po m L) λb hb=>by
    obtain⟨z,hz,rfl⟩:=kK hb;refine (dh.mem (List.mem_map.2 ⟨z,(dV.1 hz).1,rfl⟩)).congr λi hi=>?_;have e:(aZ m L z).getD i 0=jP m z (L.getD i []):=aT _ _ hi;exact e.symm
   exact h3.congr λi hi=>aT _ _ hi) λu hu=>all u (hK u hu)
 refine (Py ?_).symm;have e:Hy m.k (yH m)=λ(u l:Wd m.k)=>jP m u.1 l.1:=by
  funext u l;exact (CQ l.1 u.1 l.2).symm
 rw[e];exact hr
end
structure H6 (k n B:Nat) (f:List Int->List Rat) (D:List Int->Prop) (K:List (List Int)) (rs:List bZ):Prop where
 sp:uO n B rs
 len:rs.length=K.length
 rows:∀ r,r ∈ rs->dh n (K.map f) (vf r.v)
 kept:∀ u,u ∈ K->dh n (o9 rs) (vf (f u))
 ord:K.Pairwise λa b=>mG a b<0
 vF:∀ u,u ∈ K->iV k u
 tail:∀ s u,s::u ∈ K->u ∈ K
 reach:∀ w,D w->dh n ((upTo K w).map f) (vf (f w))
section
variable {k n B l i:Nat}{f:List Int->List Rat}{D D':List Int->Prop}{K Lv kept:List (List Int)}{rs:List bZ}{c w u:List Int}
theorem H6.weaken (h:H6 k n B f D K rs)(hd:∀ w,D' w->D w):H6 k n B f D' K rs:=⟨h.sp,h.len,h.rows,h.kept,h.ord,h.vF,h.tail,λw hw=>h.reach w (hd w hw)⟩
theorem H6.start:H6 k n B f (λ_=>False) [] []:=⟨uO.nil,rfl,λ_ h=>(by cases h),λ_ h=>(by cases h),List.Pairwise.nil,λ_ h=>(by cases h),λ_ _ h=>(by cases h),λ_ h=>h.elim⟩
theorem H6.grow (h:H6 k n B f D K rs)(hfl:(f c).length=n)(h1:1<=B)(hz:∀ i,sz ((f c).getD i 0)<=B)(hc:iV k c)(hlt:∀ u,u ∈ K->mG u c<0)(ht:∀ s u,c=s::u->u ∈ K)(hg:bM rs (f c)=true) :
  H6 k n B f (λw=>D w \/ w=c) (K++[c]) (rs++[newR rs (f c)]):=by
 have hs:=DR rs (f c);rw[hfl] at hs;refine⟨h.sp.grow hfl h1 hz hg,by rw[jd,jd,h.len];rfl,λr hr=>?_,λu hu=>?_,?_,λu hu=>?_,λs u hu=>?_,λw hw=>?_⟩
 .rcases uy hr with hr|hr
  .exact (h.rows r hr).mono λb hb=>by
    obtain⟨u,hu,rfl⟩:=kK hb;exact List.mem_map.2 ⟨u,List.mem_append.2 (.inl hu),rfl⟩
  .rw[jJ hr];have h1:dh n ((K++[c]).map f) (vf (f c)):=.mem (List.mem_map.2 ⟨c,List.mem_append.2 (.inr (List.mem_singleton.2 rfl)),rfl⟩);have h2:=(hs.trans λb hb=>by
    obtain⟨r,hr,rfl⟩:=kK hb;exact (h.rows r hr).mono λb hb=>by
     obtain⟨u,hu,rfl⟩:=kK hb;exact List.mem_map.2 ⟨u,List.mem_append.2 (.inl hu),rfl⟩:dh n ((K++[c]).map f) _)
   refine (h1.plus (h2.smul (-1))).congr λi _=>?_;show (aO rs (f c)).getD i 0=(f c).getD i 0 + -1*((f c).getD i 0-(aO rs (f c)).getD i 0)
   rw[Rat.neg_mul,Rat.one_mul,Rat.neg_sub,Rat.sub_eq_add_neg,Rat.add_comm ((f c).getD i 0),Rat.add_assoc,Rat.neg_add_cancel,Rat.add_zero]
 .rw[KQ];rcases uy hu with hu|hu
  .exact (h.kept u hu).mono λb hb=>List.mem_append.2 (.inl hb)
  .rw[jJ hu];have h1:=hs.mono (C:=o9 rs++[aO rs (f c)]) λb hb=>List.mem_append.2 (.inl hb);have h2:dh n (o9 rs++[aO rs (f c)]) (vf (aO rs (f c))):=.mem (List.mem_append.2 (.inr (List.mem_singleton.2 rfl)));refine (h1.plus h2).congr λi _=>?_;show (f c).getD i 0=(f c).getD i 0-(aO rs (f c)).getD i 0+(aO rs (f c)).getD i 0
   rw[Rat.sub_add_cancel]
 .refine List.pairwise_append.2 ⟨h.ord,List.pairwise_singleton ..,λa ha b hb=>?_⟩;rw[jJ hb];exact hlt a ha
 .rcases uy hu with hu|hu
  .exact h.vF u hu
  .rw[jJ hu];exact hc
 .refine List.mem_append.2 (.inl ?_);rcases uy hu with hu|hu
  .exact h.tail s u hu
  .exact ht s u (jJ hu).symm
 .rcases hw with hw|rfl
  .exact (h.reach w hw).mono λb hb=>by
    obtain⟨u,hu,rfl⟩:=kK hb;exact List.mem_map.2 ⟨u,RU hu,rfl⟩
  .exact .mem (List.mem_map.2 ⟨w,dV.2 ⟨List.mem_append.2 (.inr (List.mem_singleton.2 rfl)),by rw[Bo];exact Int.le_refl _⟩,rfl⟩)
theorem H6.drop (h:H6 k n B f D K rs)(hfl:(f c).length=n)(hlt:∀ u,u ∈ K->mG u c<0)(hg:bM rs (f c)=false):H6 k n B f (λw=>D w \/ w=c) K rs :=
 ⟨h.sp,h.len,h.rows,h.kept,h.ord,h.vF,h.tail,λw hw=>by
  rcases hw with hw|rfl
  .exact h.reach w hw
  .refine (((Ad h.sp.ech hfl).1 hg).trans (C:=K.map f) λb hb=>?_).mono λb hb=>?_
   .obtain⟨r,hr,rfl⟩:=kK hb;exact h.rows r hr
   .obtain⟨u,hu,rfl⟩:=kK hb;exact List.mem_map.2 ⟨u,dV.2 ⟨hu,Int.le_of_lt (hlt u hu)⟩,rfl⟩⟩
def gW (k:Nat)(Kl:List (List Int)):List (List Int):=(List.range k).flatMap λs=>Kl.map λr=>((s+1:Nat):Int)::r
theorem Fe:c ∈ gW k K ↔ ∃ s,s<k/\∃ r,r ∈ K/\c=((s+1:Nat):Int)::r:=by
 unfold gW;rw[List.mem_flatMap];constructor
 .rintro⟨s,hs,hc⟩
  obtain⟨r,hr,rfl⟩:=kK hc;exact⟨s,List.mem_range.1 hs,r,hr,rfl⟩
 .rintro⟨s,hs,r,hr,rfl⟩
  exact⟨s,List.mem_range.2 hs,List.mem_map.2 ⟨r,hr,rfl⟩⟩
theorem J5 {x:Int}{a b:List Int}:mG (x::a) (x::b)=mG a b:=by
 unfold mG;rw[List.length_cons,List.length_cons];by_cases h:a.length=b.length
 .rw[if_neg (show ¬ a.length+1≠b.length+1 by omega),if_neg (show ¬ a.length≠b.length by omega)]
  show (if x<x then (-1:Int) else if x<x then 1 else cmpL a b)=cmpL a b
  rw[if_neg (Int.lt_irrefl x),if_neg (Int.lt_irrefl x)]
 .rw[if_pos (show a.length+1≠b.length+1 by omega),if_pos (show a.length≠b.length by omega)]
  by_cases h2:a.length<b.length
  .rw[if_pos (show a.length+1<b.length+1 by omega),if_pos h2]
  .rw[if_neg (show ¬ a.length+1<b.length+1 by omega),if_neg h2]
theorem XB {x y:Int}{a b:List Int}(hl:a.length=b.length)(h:x<y):mG (x::a) (y::b)<0:=by
 unfold mG;rw[List.length_cons,List.length_cons,if_neg (by omega)]
 show (if x<y then (-1:Int) else if y<x then 1 else cmpL a b)<0
 rw[if_pos h];decide
theorem Zq (ho:K.Pairwise λa b=>mG a b<0)(hl:∀ u,u ∈ K->u.length=l):(gW k K).Pairwise λa b=>mG a b<0:=by
 unfold gW;refine List.pairwise_flatMap.2 ⟨λs _=>?_,List.pairwise_lt_range.imp λ{s t} hst a ha b hb=>?_⟩
 .refine List.pairwise_map.2 (ho.imp λ{a b} h=>?_);rw[J5];exact h
 .obtain⟨x,hx,rfl⟩:=kK ha;obtain⟨y,hy,rfl⟩:=kK hb;exact XB ((hl x hx).trans (hl y hy).symm) (by omega)
structure a00 (k l:Nat) (K Lv:List (List Int)):Prop where
 len:∀ c,c ∈ Lv->c.length=l
 vF:∀ c,c ∈ Lv->iV k c
 tail:∀ c,c ∈ Lv->∀ s u,c=s::u->u ∈ K
 ord:Lv.Pairwise λa b=>mG a b<0
 root:l=0->Lv=[[]]
 all:0<l->∀ u,u ∈ K->u.length+1=l->∀ s,s<k->((s+1:Nat):Int)::u ∈ Lv
structure Ff (k n B:Nat) (f:List Int->List Rat) (l:Nat) (Lv K:List (List Int)) (rs:List bZ):Prop where
 s:H6 k n B f (λw=>iV k w/\w.length<l) K rs
 short:∀ u,u ∈ K->u.length<l
 lv:a00 k l K Lv
structure Gq (k n B:Nat) (f:List Int->List Rat) (l:Nat) (Lv:List (List Int)) (i:Nat) (kept K:List (List Int)) (rs:List bZ):Prop where
 s:H6 k n B f (λw=>(iV k w/\w.length<l) \/ w ∈ Lv.take i) K rs
 split:∀ u,u ∈ K->u.length<l \/ u ∈ Lv.take i
 ko:kept.Pairwise λa b=>mG a b<0
 km:∀ u,u ∈ kept ↔ u ∈ K/\u.length=l
 lv:a00 k l K Lv
theorem Ff.start:Ff k n B f 0 [[]] [] [] :=
 ⟨H6.start.weaken λw hw=>absurd hw.2 (Nat.not_lt_zero _),λ_ h=>(by cases h),⟨λc hc=>(by rw[jJ hc];rfl),λc hc=>(by rw[jJ hc];exact λx hx=>by cases hx),λc hc s u e=>(by rw[jJ hc] at e;cases e),List.pairwise_singleton ..,λ_=>rfl,λh=>absurd h (Nat.lt_irrefl _)⟩⟩
theorem Ff.begin (h:Ff k n B f l Lv K rs):Gq k n B f l Lv 0 [] K rs :=
 ⟨h.s.weaken λw hw=>hw.elim id λh=>(by cases h),λu hu=>.inl (h.short u hu),List.Pairwise.nil,λu=>⟨λh=>(by cases h),λ⟨h1,h2⟩=>by have:=h.short u h1;omega⟩,h.lv⟩
theorem Gq.before (h:Gq k n B f l Lv i kept K rs)(hi:i<Lv.length):∀ u,u ∈ K->mG u (Lv.getD i [])<0:=λu hu=>by
 have hm:Lv.getD i [] ∈ Lv:=getD_mem hi [];rcases h.split u hu with h1|h1
 .exact DW (by rw[h.lv.len _ hm];exact h1)
 .obtain⟨t,ht,rfl⟩:=List.mem_iff_getElem.1 h1;rw[List.length_take] at ht;have e:Lv.getD i []=Lv[i]:=by rw[jh,lQ hi];rfl
  rw[e,List.getElem_take];exact List.pairwise_iff_getElem.1 h.lv.ord t i (by omega) hi (by omega)
theorem Ed {α:Type}{Lv:List α}{d x:α}{i:Nat}(hi:i<Lv.length):x ∈ Lv.take (i+1) ↔ x ∈ Lv.take i \/ x=Lv.getD i d:=by
 rw[iL d hi,List.mem_append,List.mem_singleton]
theorem Gq.yes (h:Gq k n B f l Lv i kept K rs)(hi:i<Lv.length)(hfl:(f (Lv.getD i [])).length=n)(h1:1<=B)(hz:∀ j,sz ((f (Lv.getD i [])).getD j 0)<=B)(hg:bM rs (f (Lv.getD i []))=true) :
  Gq k n B f l Lv (i+1) (kept++[Lv.getD i []]) (K++[Lv.getD i []]) (rs++[newR rs (f (Lv.getD i []))]):=by
 have hm:Lv.getD i [] ∈ Lv:=getD_mem hi [];have hb:=h.before hi;refine⟨(h.s.grow hfl h1 hz (h.lv.vF _ hm) hb (h.lv.tail _ hm) hg).weaken λw hw=>?_,λu hu=>?_,?_,λu=>?_,⟨h.lv.len,h.lv.vF,λc hc s u e=>List.mem_append.2 (.inl (h.lv.tail c hc s u e)),h.lv.ord,h.lv.root,λhp u hu hul=>?_⟩⟩
 .rcases hw with hw|hw
  .exact .inl (.inl hw)
  .exact ((Ed hi).1 hw).imp .inr id
 .rcases uy hu with hu|hu
  .exact (h.split u hu).imp id λh=>(Ed (d:=[]) hi).2 (.inl h)
  .exact .inr ((Ed hi).2 (.inr (jJ hu)))
 .refine List.pairwise_append.2 ⟨h.ko,List.pairwise_singleton ..,λa ha b hb'=>?_⟩;rw[jJ hb'];exact hb a ((h.km a).1 ha).1
 .rw[List.mem_append,List.mem_append,h.km,List.mem_singleton];constructor
  .rintro (⟨a,b⟩|rfl)
   .exact⟨.inl a,b⟩
   .exact⟨.inr rfl,h.lv.len _ hm⟩
  .rintro⟨a|rfl,b⟩
   .exact .inl ⟨a,b⟩
   .exact .inr rfl
 .rcases uy hu with hu|hu
  .exact h.lv.all hp u hu hul
  .have:=h.lv.len _ hm;rw[jJ hu] at hul;omega
theorem Gq.no (h:Gq k n B f l Lv i kept K rs)(hi:i<Lv.length)(hfl:(f (Lv.getD i [])).length=n)(hg:bM rs (f (Lv.getD i []))=false):Gq k n B f l Lv (i+1) kept K rs :=
  ⟨(h.s.drop hfl (h.before hi) hg).weaken λw hw => by
    rcases hw with hw|hw
    · exact .inl (.inl hw)
    · exact ((Ed hi).1 hw).imp .inr id,λu hu=>(h.split u hu).imp id λh=>(Ed (d:=[]) hi).2 (.inl h),h.ko,h.km,h.lv⟩
def Qr (k n:Nat)(f:List Int->List Rat):Prop:=∃ M:bV,M.n=n/\M.k=k/\∀ w,iV k w->f w=bF M w.reverse
theorem Qr.map (hf:Qr k n f){y:List Int}{s:Nat}{C:List (List Rat)}{U:List (List Int)}(hs:s<k)(hy:iV k y)(hU:∀ u,u ∈ U->iV k u)(h:dh n (U.map f) (vf (f y)))(hC:∀ u,u ∈ U->dh n C (vf (f (((s+1:Nat):Int)::u)))):dh n C (vf (f (((s+1:Nat):Int)::y))):=by
 obtain⟨M,rfl,rfl,hM⟩:=hf;have step:∀ u,iV M.k u->∀ j,j<M.n->(f (((s+1:Nat):Int)::u)).getD j 0=bD (λi=>vf (f u) i*qJ M s i j) M.n:=λu hu j hj=>by
  have hc:iV M.k (((s+1:Nat):Int)::u):=λx hx=>by
   rcases List.mem_cons.1 hx with rfl|hx
   .omega
   .exact hu x hx
  rw[hM _ hc,hM u hu,List.reverse_cons,mY,show (((s+1:Nat):Int)).toNat-1=s by omega,DU hj]
 have hmap:=h.map (C:=C) (RQ M s) λb hb=>by
  obtain⟨u,hu,rfl⟩:=kK hb;exact (hC u hu).congr λj hj=>(step u (hU u hu) j hj).symm
 exact hmap.congr λj hj=>step y hy j hj
theorem Gq.done (h:Gq k n B f l Lv Lv.length kept K rs)(hf:Qr k n f):Ff k n B f (l+1) (gW k kept) K rs:=by
 have hkm:∀ u,u ∈ kept->u ∈ K/\u.length=l:=λu hu=>(h.km u).1 hu;have htk:Lv.take Lv.length=Lv:=List.take_length;refine⟨⟨h.s.sp,h.s.len,h.s.rows,h.s.kept,h.s.ord,h.s.vF,h.s.tail,λw hw=>?_⟩,λu hu=>?_,⟨λc hc=>?_,λc hc=>?_,λc hc s u e=>?_,Zq h.ko λu hu=>(hkm u hu).2,λh0=>(by cases h0),λ_ u hu hul s hs=>Fe.2 ⟨s,hs,u,(h.km u).2 ⟨hu,by omega⟩,rfl⟩⟩⟩
 .obtain⟨hwi,hwl⟩:=hw;by_cases hlt:w.length<l
  .exact h.s.reach w (.inl ⟨hwi,hlt⟩)
  .have hl:w.length=l:=by omega
   rcases Nat.eq_zero_or_pos l with h0|h0
   .refine h.s.reach w (.inr ?_);rw[htk,h.lv.root h0,Hl (hl.trans h0)];exact List.mem_singleton.2 rfl
   .have ha:=h.lv.all h0;cases w with
    | nil =>
     have h1:0=l:=hl;omega
    | cons x y =>
     have hx:=hwi x pU;obtain⟨s,hs,rfl⟩:∃ s:Nat,s<k/\x=((s+1:Nat):Int):=⟨x.toNat-1,by omega,by omega⟩
     have hy:iV k y:=λq hq=>hwi q (List.mem_cons_of_mem _ hq);rw[List.length_cons] at hl;refine hf.map hs hy (λu hu=>h.s.vF u (dV.1 hu).1) (h.s.reach y (.inl ⟨hy,by omega⟩)) λu hu=>?_
     obtain⟨hu1,hu2⟩:=dV.1 hu;have hul:=NI hu2;have hr:dh n ((upTo K (((s+1:Nat):Int)::u)).map f) (vf (f (((s+1:Nat):Int)::u))):=by
      refine h.s.reach _ ?_;by_cases hc:u.length+1<l
      .refine .inl ⟨λq hq=>?_,by rw[List.length_cons];exact hc⟩
       rcases List.mem_cons.1 hq with rfl|hq
       .omega
       .exact h.s.vF u hu1 q hq
      .refine .inr ?_;rw[htk];exact ha u hu1 (by omega) s hs
     refine hr.mono λb hb=>?_;obtain⟨z,hz,rfl⟩:=kK hb;obtain⟨hz1,hz2⟩:=dV.1 hz;exact List.mem_map.2 ⟨z,dV.2 ⟨hz1,DV hz2 (by rw[J5];exact hu2)⟩,rfl⟩
 .rcases h.split u hu with h1|h1
  .omega
  .rw[htk] at h1;have:=h.lv.len u h1;omega
 .obtain⟨s,_,r,hr,rfl⟩:=Fe.1 hc;rw[List.length_cons,(hkm r hr).2]
 .obtain⟨s,hs,r,hr,rfl⟩:=Fe.1 hc;intro x hx;rcases List.mem_cons.1 hx with rfl|hx
  .omega
  .exact h.s.vF r (hkm r hr).1 x hx
 .obtain⟨s',_,r,hr,e'⟩:=Fe.1 hc;rw[e'] at e;cases e
  exact (hkm _ hr).1
theorem Ff.all (h:Ff k n B f l [] K rs)(hf:Qr k n f)(hk:1<=k):∀ (q:Nat) (w:List Int),w.length=q->iV k w->dh n ((upTo K w).map f) (vf (f w)):=by
 have hl0:l≠0:=λe=>by cases h.lv.root e
 have hno:∀ u,u ∈ K->u.length+1≠l:=λu hu e=>by
  have:=h.lv.all (by omega) u hu e 0 hk
  cases this
 intro q
 induction q with
 | zero =>
  intro w hw hi;exact h.s.reach w ⟨hi,by omega⟩
 | succ q ih =>
  intro w hw hi;cases w with
  | nil=>cases hw
  | cons x y =>
   have hx:=hi x pU;obtain⟨s,hs,rfl⟩:∃ s:Nat,s<k/\x=((s+1:Nat):Int):=⟨x.toNat-1,by omega,by omega⟩
   have hy:iV k y:=λq hq=>hi q (List.mem_cons_of_mem _ hq);rw[List.length_cons] at hw;refine hf.map hs hy (λu hu=>h.s.vF u (dV.1 hu).1) (ih y (by omega) hy) λu hu=>?_
   obtain⟨hu1,hu2⟩:=dV.1 hu;have h1:=h.short u hu1;have h2:=hno u hu1;refine (h.s.reach (((s+1:Nat):Int)::u) ⟨λq hq=>?_,by rw[List.length_cons];omega⟩).mono λb hb=>?_
   .rcases List.mem_cons.1 hq with rfl|hq
    .omega
    .exact h.s.vF u hu1 q hq
   .obtain⟨z,hz,rfl⟩:=kK hb;obtain⟨hz1,hz2⟩:=dV.1 hz;exact List.mem_map.2 ⟨z,dV.2 ⟨hz1,DV hz2 (by rw[J5];exact hu2)⟩,rfl⟩

/-
  M, chapters 29 and 30: spaces whose rows have 1 at their leads, with their parts.
-/
import Derived.Test.YtnjoncgnjdkaoaaGreatDoorKMod102
set_option linter.unusedVariables false
set_option linter.unusedSimpArgs false
namespace Go.AL
open Go Go.BigFrame
section
variable {m:dZ}{L V V2 K:List (List Int)}{rs r2:List bJ}{w u:List Int}
theorem Zt (ok:m.Ok)(j:Join (bI m) V L [] rs){l:List Int}(hl:iV m.k l):∃ d:Nat->Rat,∀ u,jP m u l=aW (λq=>d q*jP m u (L.getD q [])) L.length:=by
 obtain⟨d,hd⟩:=I9 ok j hl;refine⟨d,λu=>?_⟩;unfold jP;rw[Rl (n:=m.n) (y:=vf (bQ (bI m) l)) (b:=λq=>vf (bQ (bI m) (L.getD q []))) hd];exact aJ λq _=>Rat.mul_comm ..
theorem Nu {q:Nat}(hq:q<L.length):(dJ m L u).getD q 0=jP m u (L.getD q []):=aK _ _ hq
theorem JK {ρ:List Int->List Int}{k:Nat}(hk:m.k=k)(ok:m.Ok)(j:Join (bI m) V L [] r2)(hL:∀ l,l ∈ L->iV k l)
  (ord:K.Pairwise λa b=>mY a b<0) (xB:∀ u,u ∈ K->iV k u) (reach:∀ w,iV k w->bK L.length ((upTo K w).map λu=>dJ m L (ρ u)) (vf (dJ m L (ρ w))))
  (e:Ip L.length rs) (len:rs.length=K.length) (rows:∀ r,r ∈ rs->bK L.length (K.map λu=>dJ m L (ρ u)) (vf r.v)):nI k (λw l=>jP m (ρ w) l) K:=by
 subst hk;refine⟨ord,xB,λw hw=>?_,λc hc=>?_⟩
 .obtain⟨c,c0,hc⟩:=WC (reach w hw);refine⟨c,λi hi hp=>c0 i hi (decide_eq_false (by omega)),λl hl=>?_⟩
  obtain⟨d,hd⟩:=Zt ok j hl;show jP m (ρ w) l=aW (λi=>c i*jP m (ρ (K.getD i [])) l) K.length
  rw[hd (ρ w),aJ (g:=λq=>aW (λi=>c i*(dJ m L (ρ (K.getD i []))).getD q 0) K.length*d q) λq hq=>by
   rw[Rat.mul_comm,<- Nu hq];exact congrArg (· * d q) (hc q hq),Eo]
  refine aJ λi _=>?_;rw[hd (ρ (K.getD i []))];congr 1;exact aJ λq hq=>by rw[Nu hq,Rat.mul_comm]
 .refine aB5 e len rows λq hq=>?_;have:=hc (L.getD q []) (hL _ (getD_mem hq []));unfold zJ at this;refine Eq.trans (aJ λi _=>?_) this;rw[Nu hq]
theorem WG {U:List (List Int)}(ok:m.Ok)(j2:Join (bI m) V2 L [] r2)(ech:Ip L.length rs)(rows:∀ r,r ∈ rs->bK L.length (U.map (dJ m L)) (vf r.v))(hU:∀ u,u ∈ U->iV m.k u)
  (all:∀ w,iV m.k w->bK L.length (lu rs) (vf (dJ m L w))):rs.length=Bz m.k (wW m):=by
 obtain⟨V,K,r1,j,hK⟩:=UB ok;have hr:=Gg ok j j2 ech (λr hr=>(rows r hr).trans λb hb=>by
   obtain⟨u,hu,rfl⟩:=jY hb;have h2:=j.MF.reach u (hU u hu) λq hq=>by cases hq
   have h3:=h2.map (C:=K.map (dJ m L)) (MI m L) λb hb=>by
    obtain⟨z,hz,rfl⟩:=jY hb;refine (bK.mem (List.mem_map.2 ⟨z,(eY.1 hz).1,rfl⟩)).congr λi hi=>?_;have e:(dJ m L z).getD i 0=jP m z (L.getD i []):=aK _ _ hi;exact e.symm
   exact h3.congr λi hi=>aK _ _ hi) λu hu=>all u (hK u hu)
 refine (Hr ?_).symm;have e:zD m.k (wW m)=λ(u l:Wd m.k)=>jP m u.1 l.1:=by
  funext u l;exact (yg l.1 u.1 l.2).symm
 rw[e];exact hr
end
structure H8 (k n B:Nat) (f:List Int->List Rat) (D:List Int->Prop) (K:List (List Int)) (rs:List bJ):Prop where
 sp:pK n B rs
 len:rs.length=K.length
 rows:∀ r,r ∈ rs->bK n (K.map f) (vf r.v)
 kept:∀ u,u ∈ K->bK n (lu rs) (vf (f u))
 ord:K.Pairwise λa b=>mY a b<0
 xB:∀ u,u ∈ K->iV k u
 tail:∀ s u,s::u ∈ K->u ∈ K
 reach:∀ w,D w->bK n ((upTo K w).map f) (vf (f w))
section
variable {k n B l i:Nat}{f:List Int->List Rat}{D D':List Int->Prop}{K Lv kept:List (List Int)}{rs:List bJ}{c w u:List Int}
theorem H8.weaken (h:H8 k n B f D K rs)(hd:∀ w,D' w->D w):H8 k n B f D' K rs:=⟨h.sp,h.len,h.rows,h.kept,h.ord,h.xB,h.tail,λw hw=>h.reach w (hd w hw)⟩
theorem H8.start:H8 k n B f (λ_=>False) [] []:=⟨pK.nil,rfl,λ_ h=>(by cases h),λ_ h=>(by cases h),List.Pairwise.nil,λ_ h=>(by cases h),λ_ _ h=>(by cases h),λ_ h=>h.elim⟩
theorem H8.grow (h:H8 k n B f D K rs)(hfl:(f c).length=n)(h1:1<=B)(hz:∀ i,sz ((f c).getD i 0)<=B)(hc:iV k c)(hlt:∀ u,u ∈ K->mY u c<0)(ht:∀ s u,c=s::u->u ∈ K)(hg:bg rs (f c)=true) :
  H8 k n B f (λw=>D w \/ w=c) (K++[c]) (rs++[newR rs (f c)]):=by
 have hs:=Bh rs (f c);rw[hfl] at hs;refine⟨h.sp.grow hfl h1 hz hg,by rw[iU,iU,h.len];rfl,λr hr=>?_,λu hu=>?_,?_,λu hu=>?_,λs u hu=>?_,λw hw=>?_⟩
 .rcases rD hr with hr|hr
  .exact (h.rows r hr).mono λb hb=>by
    obtain⟨u,hu,rfl⟩:=jY hb;exact List.mem_map.2 ⟨u,List.mem_append.2 (.inl hu),rfl⟩
  .rw[kJ hr];have h1:bK n ((K++[c]).map f) (vf (f c)):=.mem (List.mem_map.2 ⟨c,List.mem_append.2 (.inr (List.mem_singleton.2 rfl)),rfl⟩);have h2:=(hs.trans λb hb=>by
    obtain⟨r,hr,rfl⟩:=jY hb;exact (h.rows r hr).mono λb hb=>by
     obtain⟨u,hu,rfl⟩:=jY hb;exact List.mem_map.2 ⟨u,List.mem_append.2 (.inl hu),rfl⟩:bK n ((K++[c]).map f) _)
   refine (h1.plus (h2.smul (-1))).congr λi _=>?_;show (aQ rs (f c)).getD i 0=(f c).getD i 0 + -1*((f c).getD i 0-(aQ rs (f c)).getD i 0)
   rw[Rat.neg_mul,Rat.one_mul,Rat.neg_sub,Rat.sub_eq_add_neg,Rat.add_comm ((f c).getD i 0),Rat.add_assoc,Rat.neg_add_cancel,Rat.add_zero]
 .rw[IJ];rcases rD hu with hu|hu
  .exact (h.kept u hu).mono λb hb=>List.mem_append.2 (.inl hb)
  .rw[kJ hu];have h1:=hs.mono (C:=lu rs++[aQ rs (f c)]) λb hb=>List.mem_append.2 (.inl hb);have h2:bK n (lu rs++[aQ rs (f c)]) (vf (aQ rs (f c))):=.mem (List.mem_append.2 (.inr (List.mem_singleton.2 rfl)));refine (h1.plus h2).congr λi _=>?_;show (f c).getD i 0=(f c).getD i 0-(aQ rs (f c)).getD i 0+(aQ rs (f c)).getD i 0
   rw[Rat.sub_add_cancel]
 .refine List.pairwise_append.2 ⟨h.ord,List.pairwise_singleton ..,λa ha b hb=>?_⟩;rw[kJ hb];exact hlt a ha
 .rcases rD hu with hu|hu
  .exact h.xB u hu
  .rw[kJ hu];exact hc
 .refine List.mem_append.2 (.inl ?_);rcases rD hu with hu|hu
  .exact h.tail s u hu
  .exact ht s u (kJ hu).symm
 .rcases hw with hw|rfl
  .exact (h.reach w hw).mono λb hb=>by
    obtain⟨u,hu,rfl⟩:=jY hb;exact List.mem_map.2 ⟨u,Pg hu,rfl⟩
  .exact .mem (List.mem_map.2 ⟨w,eY.2 ⟨List.mem_append.2 (.inr (List.mem_singleton.2 rfl)),by rw[xA];exact Int.le_refl _⟩,rfl⟩)
theorem H8.drop (h:H8 k n B f D K rs)(hfl:(f c).length=n)(hlt:∀ u,u ∈ K->mY u c<0)(hg:bg rs (f c)=false):H8 k n B f (λw=>D w \/ w=c) K rs :=
 ⟨h.sp,h.len,h.rows,h.kept,h.ord,h.xB,h.tail,λw hw=>by
  rcases hw with hw|rfl
  .exact h.reach w hw
  .refine (((Bv h.sp.ech hfl).1 hg).trans (C:=K.map f) λb hb=>?_).mono λb hb=>?_
   .obtain⟨r,hr,rfl⟩:=jY hb;exact h.rows r hr
   .obtain⟨u,hu,rfl⟩:=jY hb;exact List.mem_map.2 ⟨u,eY.2 ⟨hu,Int.le_of_lt (hlt u hu)⟩,rfl⟩⟩
def Nv (k:Nat)(Kl:List (List Int)):List (List Int):=(List.range k).flatMap λs=>Kl.map λr=>((s+1:Nat):Int)::r
theorem Dv:c ∈ Nv k K ↔ ∃ s,s<k/\∃ r,r ∈ K/\c=((s+1:Nat):Int)::r:=by
 unfold Nv;rw[List.mem_flatMap];constructor
 .rintro⟨s,hs,hc⟩
  obtain⟨r,hr,rfl⟩:=jY hc;exact⟨s,List.mem_range.1 hs,r,hr,rfl⟩
 .rintro⟨s,hs,r,hr,rfl⟩
  exact⟨s,List.mem_range.2 hs,List.mem_map.2 ⟨r,hr,rfl⟩⟩
theorem Nw {x:Int}{a b:List Int}:mY (x::a) (x::b)=mY a b:=by
 unfold mY;rw[List.length_cons,List.length_cons];by_cases h:a.length=b.length
 .rw[if_neg (show ¬ a.length+1≠b.length+1 by omega),if_neg (show ¬ a.length≠b.length by omega)]
  show (if x<x then (-1:Int) else if x<x then 1 else cmpL a b)=cmpL a b
  rw[if_neg (Int.lt_irrefl x),if_neg (Int.lt_irrefl x)]
 .rw[if_pos (show a.length+1≠b.length+1 by omega),if_pos (show a.length≠b.length by omega)]
  by_cases h2:a.length<b.length
  .rw[if_pos (show a.length+1<b.length+1 by omega),if_pos h2]
  .rw[if_neg (show ¬ a.length+1<b.length+1 by omega),if_neg h2]
theorem UD {x y:Int}{a b:List Int}(hl:a.length=b.length)(h:x<y):mY (x::a) (y::b)<0:=by
 unfold mY;rw[List.length_cons,List.length_cons,if_neg (by omega)]
 show (if x<y then (-1:Int) else if y<x then 1 else cmpL a b)<0
 rw[if_pos h];decide
theorem WH (ho:K.Pairwise λa b=>mY a b<0)(hl:∀ u,u ∈ K->u.length=l):(Nv k K).Pairwise λa b=>mY a b<0:=by
 unfold Nv;refine List.pairwise_flatMap.2 ⟨λs _=>?_,List.pairwise_lt_range.imp λ{s t} hst a ha b hb=>?_⟩
 .refine List.pairwise_map.2 (ho.imp λ{a b} h=>?_);rw[Nw];exact h
 .obtain⟨x,hx,rfl⟩:=jY ha;obtain⟨y,hy,rfl⟩:=jY hb;exact UD ((hl x hx).trans (hl y hy).symm) (by omega)
structure aI0 (k l:Nat) (K Lv:List (List Int)):Prop where
 len:∀ c,c ∈ Lv->c.length=l
 xB:∀ c,c ∈ Lv->iV k c
 tail:∀ c,c ∈ Lv->∀ s u,c=s::u->u ∈ K
 ord:Lv.Pairwise λa b=>mY a b<0
 root:l=0->Lv=[[]]
 all:0<l->∀ u,u ∈ K->u.length+1=l->∀ s,s<k->((s+1:Nat):Int)::u ∈ Lv
structure WI (k n B:Nat) (f:List Int->List Rat) (l:Nat) (Lv K:List (List Int)) (rs:List bJ):Prop where
 s:H8 k n B f (λw=>iV k w/\w.length<l) K rs
 short:∀ u,u ∈ K->u.length<l
 lv:aI0 k l K Lv
structure Oq (k n B:Nat) (f:List Int->List Rat) (l:Nat) (Lv:List (List Int)) (i:Nat) (kept K:List (List Int)) (rs:List bJ):Prop where
 s:H8 k n B f (λw=>(iV k w/\w.length<l) \/ w ∈ Lv.take i) K rs
 split:∀ u,u ∈ K->u.length<l \/ u ∈ Lv.take i
 ko:kept.Pairwise λa b=>mY a b<0
 km:∀ u,u ∈ kept ↔ u ∈ K/\u.length=l
 lv:aI0 k l K Lv
theorem WI.start:WI k n B f 0 [[]] [] [] :=
 ⟨H8.start.weaken λw hw=>absurd hw.2 (Nat.not_lt_zero _),λ_ h=>(by cases h),⟨λc hc=>(by rw[kJ hc];rfl),λc hc=>(by rw[kJ hc];exact λx hx=>by cases hx),λc hc s u e=>(by rw[kJ hc] at e;cases e),List.pairwise_singleton ..,λ_=>rfl,λh=>absurd h (Nat.lt_irrefl _)⟩⟩
theorem Oq.before (h:Oq k n B f l Lv i kept K rs)(hi:i<Lv.length):∀ u,u ∈ K->mY u (Lv.getD i [])<0:=λu hu=>by
 have hm:Lv.getD i [] ∈ Lv:=getD_mem hi [];rcases h.split u hu with h1|h1
 .exact Bq (by rw[h.lv.len _ hm];exact h1)
 .obtain⟨t,ht,rfl⟩:=List.mem_iff_getElem.1 h1;rw[List.length_take] at ht;have e:Lv.getD i []=Lv[i]:=by rw[gI,kL hi];rfl
  rw[e,List.getElem_take];exact List.pairwise_iff_getElem.1 h.lv.ord t i (by omega) hi (by omega)
theorem BK {α:Type}{Lv:List α}{d x:α}{i:Nat}(hi:i<Lv.length):x ∈ Lv.take (i+1) ↔ x ∈ Lv.take i \/ x=Lv.getD i d:=by
 rw[oW d hi,List.mem_append,List.mem_singleton]
theorem Oq.yes (h:Oq k n B f l Lv i kept K rs)(hi:i<Lv.length)(hfl:(f (Lv.getD i [])).length=n)(h1:1<=B)(hz:∀ j,sz ((f (Lv.getD i [])).getD j 0)<=B)(hg:bg rs (f (Lv.getD i []))=true) :
  Oq k n B f l Lv (i+1) (kept++[Lv.getD i []]) (K++[Lv.getD i []]) (rs++[newR rs (f (Lv.getD i []))]):=by
 have hm:Lv.getD i [] ∈ Lv:=getD_mem hi [];have hb:=h.before hi;refine⟨(h.s.grow hfl h1 hz (h.lv.xB _ hm) hb (h.lv.tail _ hm) hg).weaken λw hw=>?_,λu hu=>?_,?_,λu=>?_,⟨h.lv.len,h.lv.xB,λc hc s u e=>List.mem_append.2 (.inl (h.lv.tail c hc s u e)),h.lv.ord,h.lv.root,λhp u hu hul=>?_⟩⟩
 .rcases hw with hw|hw
  .exact .inl (.inl hw)
  .exact ((BK hi).1 hw).imp .inr id
 .rcases rD hu with hu|hu
  .exact (h.split u hu).imp id λh=>(BK (d:=[]) hi).2 (.inl h)
  .exact .inr ((BK hi).2 (.inr (kJ hu)))
 .refine List.pairwise_append.2 ⟨h.ko,List.pairwise_singleton ..,λa ha b hb'=>?_⟩;rw[kJ hb'];exact hb a ((h.km a).1 ha).1
 .rw[List.mem_append,List.mem_append,h.km,List.mem_singleton];constructor
  .rintro (⟨a,b⟩|rfl)
   .exact⟨.inl a,b⟩
   .exact⟨.inr rfl,h.lv.len _ hm⟩
  .rintro⟨a|rfl,b⟩
   .exact .inl ⟨a,b⟩
   .exact .inr rfl
 .rcases rD hu with hu|hu
  .exact h.lv.all hp u hu hul
  .have:=h.lv.len _ hm;rw[kJ hu] at hul;omega
theorem Oq.no (h:Oq k n B f l Lv i kept K rs)(hi:i<Lv.length)(hfl:(f (Lv.getD i [])).length=n)(hg:bg rs (f (Lv.getD i []))=false):Oq k n B f l Lv (i+1) kept K rs :=
  ⟨(h.s.drop hfl (h.before hi) hg).weaken λw hw => by
    rcases hw with hw|hw
    · exact .inl (.inl hw)
    · exact ((BK hi).1 hw).imp .inr id,λu hu=>(h.split u hu).imp id λh=>(BK (d:=[]) hi).2 (.inl h),h.ko,h.km,h.lv⟩
def UE (k n:Nat)(f:List Int->List Rat):Prop:=∃ M:dZ,M.n=n/\M.k=k/\∀ w,iV k w->f w=bQ M w.reverse
theorem UE.map (hf:UE k n f){y:List Int}{s:Nat}{C:List (List Rat)}{U:List (List Int)}(hs:s<k)(hy:iV k y)(hU:∀ u,u ∈ U->iV k u)(h:bK n (U.map f) (vf (f y)))(hC:∀ u,u ∈ U->bK n C (vf (f (((s+1:Nat):Int)::u)))):bK n C (vf (f (((s+1:Nat):Int)::y))):=by
 obtain⟨M,rfl,rfl,hM⟩:=hf;have step:∀ u,iV M.k u->∀ j,j<M.n->(f (((s+1:Nat):Int)::u)).getD j 0=aW (λi=>vf (f u) i*sG M s i j) M.n:=λu hu j hj=>by
  have hc:iV M.k (((s+1:Nat):Int)::u):=λx hx=>by
   rcases List.mem_cons.1 hx with rfl|hx
   .omega
   .exact hu x hx
  rw[hM _ hc,hM u hu,List.reverse_cons,lW,show (((s+1:Nat):Int)).toNat-1=s by omega,Bo hj]
 have hmap:=h.map (C:=C) (O8 M s) λb hb=>by
  obtain⟨u,hu,rfl⟩:=jY hb;exact (hC u hu).congr λj hj=>(step u (hU u hu) j hj).symm
 exact hmap.congr λj hj=>step y hy j hj
theorem Oq.done (h:Oq k n B f l Lv Lv.length kept K rs)(hf:UE k n f):WI k n B f (l+1) (Nv k kept) K rs:=by
 have hkm:∀ u,u ∈ kept->u ∈ K/\u.length=l:=λu hu=>(h.km u).1 hu;have htk:Lv.take Lv.length=Lv:=List.take_length;refine⟨⟨h.s.sp,h.s.len,h.s.rows,h.s.kept,h.s.ord,h.s.xB,h.s.tail,λw hw=>?_⟩,λu hu=>?_,⟨λc hc=>?_,λc hc=>?_,λc hc s u e=>?_,WH h.ko λu hu=>(hkm u hu).2,λh0=>(by cases h0),λ_ u hu hul s hs=>Dv.2 ⟨s,hs,u,(h.km u).2 ⟨hu,by omega⟩,rfl⟩⟩⟩
 .obtain⟨hwi,hwl⟩:=hw;by_cases hlt:w.length<l
  .exact h.s.reach w (.inl ⟨hwi,hlt⟩)
  .have hl:w.length=l:=by omega
   rcases Nat.eq_zero_or_pos l with h0|h0
   .refine h.s.reach w (.inr ?_);rw[htk,h.lv.root h0,Gt (hl.trans h0)];exact List.mem_singleton.2 rfl
   .have ha:=h.lv.all h0;cases w with
    | nil =>
     have h1:0=l:=hl;omega
    | cons x y =>
     have hx:=hwi x vC;obtain⟨s,hs,rfl⟩:∃ s:Nat,s<k/\x=((s+1:Nat):Int):=⟨x.toNat-1,by omega,by omega⟩
     have hy:iV k y:=λq hq=>hwi q (List.mem_cons_of_mem _ hq);rw[List.length_cons] at hl;refine hf.map hs hy (λu hu=>h.s.xB u (eY.1 hu).1) (h.s.reach y (.inl ⟨hy,by omega⟩)) λu hu=>?_
     obtain⟨hu1,hu2⟩:=eY.1 hu;have hul:=Hg hu2;have hr:bK n ((upTo K (((s+1:Nat):Int)::u)).map f) (vf (f (((s+1:Nat):Int)::u))):=by
      refine h.s.reach _ ?_;by_cases hc:u.length+1<l
      .refine .inl ⟨λq hq=>?_,by rw[List.length_cons];exact hc⟩
       rcases List.mem_cons.1 hq with rfl|hq
       .omega
       .exact h.s.xB u hu1 q hq
      .refine .inr ?_;rw[htk];exact ha u hu1 (by omega) s hs
     refine hr.mono λb hb=>?_;obtain⟨z,hz,rfl⟩:=jY hb;obtain⟨hz1,hz2⟩:=eY.1 hz;exact List.mem_map.2 ⟨z,eY.2 ⟨hz1,EY hz2 (by rw[Nw];exact hu2)⟩,rfl⟩
 .rcases h.split u hu with h1|h1
  .omega
  .rw[htk] at h1;have:=h.lv.len u h1;omega
 .obtain⟨s,_,r,hr,rfl⟩:=Dv.1 hc;rw[List.length_cons,(hkm r hr).2]
 .obtain⟨s,hs,r,hr,rfl⟩:=Dv.1 hc;intro x hx;rcases List.mem_cons.1 hx with rfl|hx
  .omega
  .exact h.s.xB r (hkm r hr).1 x hx
 .obtain⟨s',_,r,hr,e'⟩:=Dv.1 hc;rw[e'] at e;cases e
  exact (hkm _ hr).1
theorem WI.all (h:WI k n B f l [] K rs)(hf:UE k n f)(hk:1<=k):∀ (q:Nat) (w:List Int),w.length=q->iV k w->bK n ((upTo K w).map f) (vf (f w)):=by
 have hl0:l≠0:=λe=>by cases h.lv.root e
 have hno:∀ u,u ∈ K->u.length+1≠l:=λu hu e=>by
  have:=h.lv.all (by omega) u hu e 0 hk
  cases this
 intro q
 induction q with
 | zero =>
  intro w hw hi;exact h.s.reach w ⟨hi,by omega⟩
 | succ q ih =>
  intro w hw hi;cases w with
  | nil=>cases hw
  | cons x y =>
   have hx:=hi x vC;obtain⟨s,hs,rfl⟩:∃ s:Nat,s<k/\x=((s+1:Nat):Int):=⟨x.toNat-1,by omega,by omega⟩
   have hy:iV k y:=λq hq=>hi q (List.mem_cons_of_mem _ hq);rw[List.length_cons] at hw;refine hf.map hs hy (λu hu=>h.s.xB u (eY.1 hu).1) (ih y (by omega) hy) λu hu=>?_
   obtain⟨hu1,hu2⟩:=eY.1 hu;have h1:=h.short u hu1;have h2:=hno u hu1;refine (h.s.reach (((s+1:Nat):Int)::u) ⟨λq hq=>?_,by rw[List.length_cons];omega⟩).mono λb hb=>?_
   .rcases List.mem_cons.1 hq with rfl|hq
    .omega
    .exact h.s.xB u hu1 q hq
   .obtain⟨z,hz,rfl⟩:=jY hb;obtain⟨hz1,hz2⟩:=eY.1 hz;exact List.mem_map.2 ⟨z,eY.2 ⟨hz1,EY hz2 (by rw[Nw];exact hu2)⟩,rfl⟩
end
section
variable {m:dZ}{B l:Nat}{y z:MZ}{K:List (List Int)}{rs:List bJ}
structure WJ (m mv:dZ):Prop where
 n:mv.n=(y9 (bI m)).length
 k:mv.k=m.k
 ok:mv.Ok
 vec:∀ w,iV m.k w->bQ mv w=dJ m (y9 (bI m)) w
 wt:∀ w,iV m.k w->wW mv w=wW m w
theorem aB6 (ok:m.Ok)(h:kH (bI m) B [] z):∃ mv,WJ m mv:=by
 obtain⟨V,j,_⟩:=h.join;have hw:=h.xB;rw[h.bas] at j hw;rw[oU] at hw;obtain⟨mv,h1,h2,h3,h4,h5⟩:=Zq ok j hw;exact⟨mv,h1,h2,h3,h4,h5⟩
theorem kH.first (ok:m.Ok)(h:kH (bI m) B [] z){mv:dZ}(v:WJ m mv)(hy:kH mv B [] y):nI m.k (λu l=>wW m (u++l)) y.ks:=by
 obtain⟨V2,j2,_⟩:=h.join;obtain⟨V,j,_⟩:=hy.join;have hw:=h.xB;rw[h.bas] at j2 hw;rw[oU] at hw;have inw:∀ u,u ∈ y.ks->iV m.k u:=λu hu=>by rw[<- v.k];exact hy.xB u hu
 have f:=JK (ρ:=id) (K:=y.ks) (rs:=y.rs) rfl ok j2 hw hy.ord inw (λw hw=>by
   have h1:=j.MF.reach w (by rw[v.k];exact hw) λq hq=>by cases hq
   rw[v.n,v.vec w hw] at h1;refine h1.mono λb hb=>?_;obtain⟨u,hu,rfl⟩:=jY hb;exact List.mem_map.2 ⟨u,hu,(v.vec u (inw u (eY.1 hu).1)).symm⟩) (by rw[<- v.n];exact j.ech) j.len λr hr=>by
   have h1:=j.rows r hr;rw[v.n] at h1;refine h1.mono λb hb=>?_;obtain⟨u,hu,rfl⟩:=jY hb;exact List.mem_map.2 ⟨u,hu,(v.vec u (inw u hu)).symm⟩
 refine f.rev.congr λu l _ hl=>?_;show wW m (u++l)=jP m u l.reverse
 rw[yg l.reverse u (Aw hl),List.reverse_reverse]
theorem kH.rank (ok:m.Ok)(h:kH (bI m) B [] z){mv:dZ}(v:WJ m mv)(hy:kH mv B [] y):y.ks.length=Bz m.k (wW m):=by
 obtain⟨V2,j2,_⟩:=h.join;rw[h.bas] at j2;exact UC ok j2 v.n v.k v.vec hy
theorem Zu (ho:K.Pairwise λa b=>mY a b<0)(hp:∀ u,u ∈ K->u≠[]->∃ x,x ∈ K/\x.length+1=u.length):∀ (q i:Nat) (hi:i<K.length),K[i].length=q->q<=i:=by
 intro q
 induction q with
 | zero=>intro i _ _;exact Nat.zero_le _
 | succ q ih =>
  intro i hi hq;obtain⟨x,hx,hxl⟩:=hp K[i] (List.getElem_mem hi) λe=>by rw[e] at hq;cases hq
  obtain⟨t,ht,rfl⟩:=List.mem_iff_getElem.1 hx;have h1:=ih t ht (by omega)
  have h2:t<i:=by
   rcases Nat.lt_trichotomy t i with g|g|g
   .exact g
   .subst g;omega
   .have h3:=List.pairwise_iff_getElem.1 ho i t hi ht g;have h4:=Hg (Int.le_of_lt h3);omega
  omega
theorem JL (ho:K.Pairwise λa b=>mY a b<0)(hp:∀ u,u ∈ K->u≠[]->∃ x,x ∈ K/\x.length+1=u.length):∀ u,u ∈ K->u.length<K.length:=λu hu=>by
 obtain⟨i,hi,rfl⟩:=List.mem_iff_getElem.1 hu;exact Nat.lt_of_le_of_lt (Zu ho hp _ i hi rfl) hi
theorem kH.short (h:kH m B [] y):∀ u,u ∈ y.ks->u.length<y.ks.length:=JL h.ord λu hu hne=>⟨u.dropLast,h.closed hu hne,by
 have:=List.length_pos_iff.2 hne;rw[List.length_dropLast];omega⟩
structure Zv (m:dZ) (K:List (List Int)):Prop where
 first:nI m.k (λw l=>wW m (l++w)) K
 tail:∀ s u,s::u ∈ K->u ∈ K
 rank:K.length=Bz m.k (wW m)
theorem Zv.unique {K':List (List Int)}(h:Zv m K)(h':Zv m K'):K=K':=h.first.unique h'.first
theorem Zv.short (h:Zv m K):∀ u,u ∈ K->u.length<K.length:=JL h.first.ord λu hu hne=>by
 cases u with
 | nil=>exact absurd rfl hne
 | cons s u=>exact⟨u,h.tail s u hu,rfl⟩
noncomputable abbrev al0 (m:dZ):List Int->List Rat:=λw=>dJ (bI m) (y9 (bI (bI m))) w.reverse
theorem Zw (ok:m.Ok)(h:kH (bI (bI m)) B [] z):UE m.k (y9 (bI (bI m))).length (al0 m):=by
 obtain⟨mv,v⟩:=aB6 (Hl ok) h;exact⟨mv,v.n,v.k.trans oU,λw hw=>(v.vec w.reverse (by rw[oU];exact Aw hw)).symm⟩
theorem WI.fin (ok:m.Ok)(hk:1<=m.k)(h:kH (bI (bI m)) B [] z)(s:WI m.k (y9 (bI (bI m))).length B (al0 m) l [] K rs):Zv m K:=by
 have hf:=Zw ok h;have all:=s.all hf hk;have reach:∀ w,iV m.k w->bK (y9 (bI (bI m))).length ((upTo K w).map (al0 m)) (vf (al0 m w)):=λw hw=>all w.length w rfl hw;obtain⟨V2,j2,_⟩:=h.join;have hw:=h.xB;rw[h.bas] at j2 hw;rw[oU,oU] at hw;have f:=JK (m:=bI m) (ρ:=List.reverse) (K:=K) (rs:=rs) (k:=m.k) oU (Hl ok) j2 hw s.s.ord s.s.xB reach s.s.sp.ech s.s.len s.s.rows;refine⟨f.congr λw l hw hl=>?_,s.s.tail,?_⟩
 .show wW m (l++w)=jP (bI m) w.reverse l
  rw[yg l w.reverse (by rw[oU];exact hl),XR λx hx=>?_]
  .rw[List.reverse_append,List.reverse_reverse,List.reverse_reverse]
  .rcases rD hx with hx|hx
   .exact hw x (List.mem_reverse.1 hx)
   .exact hl x (List.mem_reverse.1 hx)
 .rw[<- s.s.len];have hr:=WG (m:=bI m) (U:=K.map List.reverse) (Hl ok) j2 s.s.sp.ech (λr hr=>by
    have h1:=s.s.rows r hr;rw[List.map_map];exact h1) (λu hu=>by
    obtain⟨x,hx,rfl⟩:=jY hu;rw[oU];exact Aw (s.s.xB x hx)) λw hw=>by
    rw[oU] at hw;have h1:=reach w.reverse (Aw hw);rw[show al0 m w.reverse=dJ (bI m) (y9 (bI (bI m))) w by show dJ _ _ w.reverse.reverse=_;rw[List.reverse_reverse]] at h1
    refine h1.trans λb hb=>?_;obtain⟨u,hu,rfl⟩:=jY hb;exact s.s.kept u (eY.1 hu).1
  rw[hr];have h1:=E9 (bI m);rw[oU,Za (g:=λw=>wW m w.reverse) λw hw=>XR hw] at h1;have h2:=Zb (E9 m) h1;rw[oU];exact h2
def bU (s:List Int->Rat)(S:List (List Int))(u:List Int):List Rat:=S.map λw=>s (u++w)
theorem uy {s:List Int->Rat}{S:List (List Int)}{u:List Int}{j:Nat}(hj:j<S.length):(bU s S u).getD j 0=s (u++S.getD j []):=by
 unfold bU;rw[gI,List.getElem?_map,kL hj,gI,kL hj];rfl
def Es (vs:List (List Rat)):List bJ:=vs.foldl vw []
theorem Ny {vs:List (List Rat)}{v:List Rat}:Es (vs++[v])=vw (Es vs) v:=by unfold Es;rw[List.foldl_append];rfl
theorem H9 {n:Nat}(h1:1<=B):∀ (vs:List (List Rat)),(∀ v,v ∈ vs->v.length=n)->(∀ v,v ∈ vs->∀ i,sz (v.getD i 0)<=B)->pK n B (Es vs)/\BB n vs (Es vs)/\∀ r,r ∈ Es vs->r.p=dV r.v:=by
 intro vs
 induction hq:vs.length generalizing vs with
 | zero=>intro _ _;rw[Gt hq];exact⟨pK.nil,BB.nil,λ_ h=>by cases h⟩
 | succ q ih =>
  intro hl hz;obtain⟨P,x,rfl⟩:∃ u x,vs=u++[x]:=⟨vs.dropLast,vs.getLast (λh=>by rw[h] at hq;cases hq),(List.dropLast_concat_getLast _).symm⟩
  rw[iU,jL] at hq;have hx:=hl x (List.mem_append.2 (.inr (List.mem_singleton.2 rfl)));obtain⟨a,b,c⟩:=ih P (by omega) (λv hv=>hl v (List.mem_append.2 (.inl hv))) (λv hv=>hz v (List.mem_append.2 (.inl hv)))
  rw[Ny];exact⟨a.add hx h1 (hz x (List.mem_append.2 (.inr (List.mem_singleton.2 rfl)))),b.add a.ech hx,Uz c⟩
end
open Classical in
noncomputable def bf5 (m:dZ):List (List Int):=if h:∃ K,nI m.k (λu l=>wW m (u++l)) K then h.choose else []
end Go.AL
namespace Go.AL
open Go Go.BigFrame
section
variable {k n B l i:Nat}{f:List Int->List Rat}{Lv kept K:List (List Int)}{rs:List bJ}{m:dZ}{e:Nat}
structure br5 (m:dZ) (K:List (List Int)):Prop where
 first:nI m.k (λu l=>wW m (u++l)) K
 init:∀ u,u ∈ K->u≠[]->u.dropLast ∈ K
 rank:K.length=Bz m.k (wW m)
 short:∀ u,u ∈ K->u.length<K.length
theorem nI.lt {h:List Int->List Int->Rat}(f:nI k h K){j:Nat}(hj:j<K.length)(h0:0<j):mY (K.getD (j-1) []) (K.getD j [])<0:=by
 have h1:=List.pairwise_iff_getElem.1 f.ord (j-1) j (by omega) hj (by omega)
 rw[gI,gI,kL (by omega),kL hj]
 exact h1
end
def lQ (r:bJ):List Rat:=r.c.map λx=>x / r.v.getD r.p 0
def minL (a b:List Rat)(c:Rat):List Rat:=sN a (λj=>a.getD j 0-c*b.getD j 0) b.length
section
variable {r:bJ}{w t a b:List Rat}{c:Rat}{i:Nat}
theorem Jc:(lQ r).length=r.c.length:=dD ..
theorem Fh (i:Nat):(lQ r).getD i 0=r.c.getD i 0 / r.v.getD r.p 0:=by
 unfold lQ;rcases Nat.lt_or_ge i r.c.length with h|h
 .rw[gI,List.getElem?_map,kL h,getD_lt h];rfl
 .rw[gI,List.getElem?_map,List.getElem?_eq_none h,EH (l:=r.c) h];show (0:Rat)=0 / _
  rw[Rat.div_def,Rat.zero_mul]
theorem aB7 (h0:r.v.getD r.p 0≠0)(hl:r.v.length=w.length):minL w (dK r) (w.getD r.p 0)=iQ w r:=by
 rw[<- Nk h0];unfold minL;exact Em λj h1 h2=>by rw[pq] at h1;omega
theorem aB8 (h0:r.v.getD r.p 0≠0):minL t (lQ r) (-(w.getD r.p 0))=F9 t (ou w r) r.c:=by
 have e:∀ j,t.getD j 0 - -(w.getD r.p 0)*(lQ r).getD j 0=t.getD j 0+ou w r*r.c.getD j 0:=λj=>by
  rw[Fh,ou,Rat.sub_eq_add_neg,Rat.neg_mul,Rat.neg_neg,Rat.div_def,Rat.div_def,<- Rat.mul_assoc,Rat.mul_assoc _ (r.c.getD j 0),Rat.mul_comm (r.c.getD j 0),Rat.mul_assoc]
 unfold minL;rw[show (λj=>t.getD j 0 - -(w.getD r.p 0)*(lQ r).getD j 0)=λj=>t.getD j 0+ou w r*r.c.getD j 0 from funext e]
 exact Em λj h1 _=>by rw[Jc] at h1;rw[uq h1,Rat.mul_zero,Rat.add_zero]
end
section
variable {rs:List bJ}{v:List Rat}{k i:Nat}
theorem al1 {r:bJ}{B:Nat}(hv:∀ i,sz (r.v.getD i 0)<=B)(hc:∀ i,sz (r.c.getD i 0)<=B)(i:Nat):sz ((lQ r).getD i 0)<=B+B:=by
 rw[Fh];have h1:=LW (r.c.getD i 0) (r.v.getD r.p 0);have h2:=hv r.p;have h3:=hc i;omega
theorem Ia:(∀ i,i<v.length->(aQ rs v).getD i 0=0) ↔ bg rs v=false:=by
 have hl:=kE rs v;unfold bg;constructor
 .intro h;refine decide_eq_false λhlt=>ul hlt (h _ (by omega))
 .intro h i hi;have hn:=lD h;exact sH (by have:=EZ (aQ rs v);omega)

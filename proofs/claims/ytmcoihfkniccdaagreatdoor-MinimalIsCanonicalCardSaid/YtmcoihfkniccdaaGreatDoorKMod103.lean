/-
  M, chapter 24: the words whose columns are new: a search by levels, with symbols in front.
-/
import Derived.Test.YtmcoihfkniccdaaGreatDoorKMod102
set_option linter.unusedVariables false
set_option linter.unusedSimpArgs false
namespace Go.AL
open Go Go.BigFrame
section
variable {m:Mach}{L V V2 K:List (List Int)}{rs r2:List SRow}{w u:List Int}
theorem hank_cols (ok:m.Ok)(j:Join (turnM m) V L [] rs){l:List Int}(hl:InW m.k l):∃ d:Nat→Rat,∀ u,hankM m u l=sumN (fun q=>d q*hankM m u (L.getD q [])) L.length:=by
 obtain ⟨d,hd⟩:=turn_span ok j hl
 refine ⟨d,fun u=>?_⟩
 unfold hankM
 rw [dot_sum (n:=m.n) (y:=vf (vecM (turnM m) l)) (b:=fun q=>vf (vecM (turnM m) (L.getD q []))) hd]
 exact sumN_congr fun q _=>Rat.mul_comm ..
theorem view_get {q:Nat}(hq:q<L.length):(viewM m L u).getD q 0=hankM m u (L.getD q []):=map_getD_range _ _ hq
theorem first_views {ρ:List Int→List Int}{k:Nat}(hk:m.k=k)(ok:m.Ok)(j:Join (turnM m) V L [] r2)(hL:∀ l,l ∈ L→InW k l)
  (ord:K.Pairwise fun a b=>slx a b<0) (inW:∀ u,u ∈ K→InW k u) (reach:∀ w,InW k w→SpanV L.length ((upTo K w).map fun u=>viewM m L (ρ u)) (vf (viewM m L (ρ w))))
  (e:Ech L.length rs) (len:rs.length=K.length) (rows:∀ r,r ∈ rs→SpanV L.length (K.map fun u=>viewM m L (ρ u)) (vf r.v)):FirstI k (fun w l=>hankM m (ρ w) l) K:=by
 subst hk
 refine ⟨ord,inW,fun w hw=>?_,fun c hc=>?_⟩
 ·obtain ⟨c,c0,hc⟩:=span_coefK (reach w hw)
  refine ⟨c,fun i hi hp=>c0 i hi (decide_eq_false (by omega)),fun l hl=>?_⟩
  obtain ⟨d,hd⟩:=hank_cols ok j hl
  show hankM m (ρ w) l=sumN (fun i=>c i*hankM m (ρ (K.getD i [])) l) K.length
  rw [hd (ρ w),sumN_congr (g:=fun q=>sumN (fun i=>c i*(viewM m L (ρ (K.getD i []))).getD q 0) K.length*d q) fun q hq=>by
   rw [Rat.mul_comm,← view_get hq]
   exact congrArg (· * d q) (hc q hq),swap_sum]
  refine sumN_congr fun i _=>?_
  rw [hd (ρ (K.getD i []))]
  congr 1
  exact sumN_congr fun q hq=>by rw [view_get hq,Rat.mul_comm]
 ·refine vec_ind e len rows fun q hq=>?_
  have:=hc (L.getD q []) (hL _ (getD_mem hq []))
  unfold linI at this
  refine Eq.trans (sumN_congr fun i _=>?_) this
  rw [view_get hq]
theorem rank_views {U:List (List Int)}(ok:m.Ok)(j2:Join (turnM m) V2 L [] r2)(ech:Ech L.length rs)(rows:∀ r,r ∈ rs→SpanV L.length (U.map (viewM m L)) (vf r.v))(hU:∀ u,u ∈ U→InW m.k u)
  (all:∀ w,InW m.k w→SpanV L.length (rowsS rs) (vf (viewM m L w))):rs.length=rankF m.k (wtM m):=by
 obtain ⟨V,K,r1,j,hK⟩:=basis_ex ok
 have hr:=rank_found ok j j2 ech (fun r hr=>(rows r hr).trans fun b hb=>by
   obtain ⟨u,hu,rfl⟩:=mm9 hb
   have h2:=j.bfs.reach u (hU u hu) fun q hq=>by cases hq
   have h3:=h2.map (C:=K.map (viewM m L)) (view_lin m L) fun b hb=>by
    obtain ⟨z,hz,rfl⟩:=mm9 hb
    refine (SpanV.mem (List.mem_map.2 ⟨z,(upTo_mem.1 hz).1,rfl⟩)).congr fun i hi=>?_
    have e:(viewM m L z).getD i 0=hankM m z (L.getD i []):=map_getD_range _ _ hi
    exact e.symm
   exact h3.congr fun i hi=>map_getD_range _ _ hi) fun u hu=>all u (hK u hu)
 refine (rankF_eq ?_).symm
 have e:tabF m.k (wtM m)=fun (u l:Wd m.k)=>hankM m u.1 l.1:=by
  funext u l
  exact (hank_wt l.1 u.1 l.2).symm
 rw [e];exact hr
end
structure SufS (k n B:Nat) (f:List Int→List Rat) (D:List Int→Prop) (K:List (List Int)) (rs:List SRow):Prop where
 sp:SpOK n B rs
 len:rs.length=K.length
 rows:∀ r,r ∈ rs→SpanV n (K.map f) (vf r.v)
 kept:∀ u,u ∈ K→SpanV n (rowsS rs) (vf (f u))
 ord:K.Pairwise fun a b=>slx a b<0
 inW:∀ u,u ∈ K→InW k u
 tail:∀ s u,s::u ∈ K→u ∈ K
 reach:∀ w,D w→SpanV n ((upTo K w).map f) (vf (f w))
section
variable {k n B l i:Nat}{f:List Int→List Rat}{D D':List Int→Prop}{K Lv kept:List (List Int)}{rs:List SRow}{c w u:List Int}
theorem SufS.weaken (h:SufS k n B f D K rs)(hd:∀ w,D' w→D w):SufS k n B f D' K rs:=⟨h.sp,h.len,h.rows,h.kept,h.ord,h.inW,h.tail,fun w hw=>h.reach w (hd w hw)⟩
theorem SufS.start:SufS k n B f (fun _=>False) [] []:=⟨SpOK.nil,rfl,fun _ h=>(by cases h),fun _ h=>(by cases h),List.Pairwise.nil,fun _ h=>(by cases h),fun _ _ h=>(by cases h),fun _ h=>h.elim⟩
theorem SufS.grow (h:SufS k n B f D K rs)(hfl:(f c).length=n)(h1:1≤B)(hz:∀ i,sz ((f c).getD i 0)≤B)(hc:InW k c)(hlt:∀ u,u ∈ K→slx u c<0)(ht:∀ s u,c=s::u→u ∈ K)(hg:growsS rs (f c)=true) :
  SufS k n B f (fun w=>D w ∨ w=c) (K++[c]) (rs++[newR rs (f c)]):=by
 have hs:=redV_span rs (f c)
 rw [hfl] at hs
 refine ⟨h.sp.grow hfl h1 hz hg,by rw [la9,la9,h.len];rfl,fun r hr=>?_,fun u hu=>?_,?_,fun u hu=>?_,fun s u hu=>?_,fun w hw=>?_⟩
 ·rcases mp9 hr with hr|hr
  ·exact (h.rows r hr).mono fun b hb=>by
    obtain ⟨u,hu,rfl⟩:=mm9 hb
    exact List.mem_map.2 ⟨u,List.mem_append.2 (.inl hu),rfl⟩
  ·rw [ms9 hr]
   have h1:SpanV n ((K++[c]).map f) (vf (f c)):=.mem (List.mem_map.2 ⟨c,List.mem_append.2 (.inr (List.mem_singleton.2 rfl)),rfl⟩)
   have h2:=(hs.trans fun b hb=>by
    obtain ⟨r,hr,rfl⟩:=mm9 hb
    exact (h.rows r hr).mono fun b hb=>by
     obtain ⟨u,hu,rfl⟩:=mm9 hb
     exact List.mem_map.2 ⟨u,List.mem_append.2 (.inl hu),rfl⟩:SpanV n ((K++[c]).map f) _)
   refine (h1.plus (h2.smul (-1))).congr fun i _=>?_
   show (redV rs (f c)).getD i 0=(f c).getD i 0 + -1*((f c).getD i 0-(redV rs (f c)).getD i 0)
   rw [Rat.neg_mul,Rat.one_mul,Rat.neg_sub,Rat.sub_eq_add_neg,Rat.add_comm ((f c).getD i 0),Rat.add_assoc,Rat.neg_add_cancel,Rat.add_zero]
 ·rw [rowsS_app]
  rcases mp9 hu with hu|hu
  ·exact (h.kept u hu).mono fun b hb=>List.mem_append.2 (.inl hb)
  ·rw [ms9 hu]
   have h1:=hs.mono (C:=rowsS rs++[redV rs (f c)]) fun b hb=>List.mem_append.2 (.inl hb)
   have h2:SpanV n (rowsS rs++[redV rs (f c)]) (vf (redV rs (f c))):=.mem (List.mem_append.2 (.inr (List.mem_singleton.2 rfl)))
   refine (h1.plus h2).congr fun i _=>?_
   show (f c).getD i 0=(f c).getD i 0-(redV rs (f c)).getD i 0+(redV rs (f c)).getD i 0
   rw [Rat.sub_add_cancel]
 ·refine List.pairwise_append.2 ⟨h.ord,List.pairwise_singleton ..,fun a ha b hb=>?_⟩
  rw [ms9 hb];exact hlt a ha
 ·rcases mp9 hu with hu|hu
  ·exact h.inW u hu
  ·rw [ms9 hu];exact hc
 ·refine List.mem_append.2 (.inl ?_)
  rcases mp9 hu with hu|hu
  ·exact h.tail s u hu
  ·exact ht s u (ms9 hu).symm
 ·rcases hw with hw|rfl
  ·exact (h.reach w hw).mono fun b hb=>by
    obtain ⟨u,hu,rfl⟩:=mm9 hb
    exact List.mem_map.2 ⟨u,upTo_grow hu,rfl⟩
  ·exact .mem (List.mem_map.2 ⟨w,upTo_mem.2 ⟨List.mem_append.2 (.inr (List.mem_singleton.2 rfl)),by rw [slx_self];exact Int.le_refl _⟩,rfl⟩)
theorem SufS.drop (h:SufS k n B f D K rs)(hfl:(f c).length=n)(hlt:∀ u,u ∈ K→slx u c<0)(hg:growsS rs (f c)=false):SufS k n B f (fun w=>D w ∨ w=c) K rs :=
 ⟨h.sp,h.len,h.rows,h.kept,h.ord,h.inW,h.tail,fun w hw=>by
  rcases hw with hw|rfl
  ·exact h.reach w hw
  ·refine (((grows_iff h.sp.ech hfl).1 hg).trans (C:=K.map f) fun b hb=>?_).mono fun b hb=>?_
   ·obtain ⟨r,hr,rfl⟩:=mm9 hb
    exact h.rows r hr
   ·obtain ⟨u,hu,rfl⟩:=mm9 hb
    exact List.mem_map.2 ⟨u,upTo_mem.2 ⟨hu,Int.le_of_lt (hlt u hu)⟩,rfl⟩⟩
def levelW (k:Nat)(Kl:List (List Int)):List (List Int):=(List.range k).flatMap fun s=>Kl.map fun r=>((s+1:Nat):Int)::r
theorem levelW_mem:c ∈ levelW k K ↔ ∃ s,s<k∧∃ r,r ∈ K∧c=((s+1:Nat):Int)::r:=by
 unfold levelW
 rw [List.mem_flatMap]
 constructor
 ·rintro ⟨s,hs,hc⟩
  obtain ⟨r,hr,rfl⟩:=mm9 hc
  exact ⟨s,List.mem_range.1 hs,r,hr,rfl⟩
 ·rintro ⟨s,hs,r,hr,rfl⟩
  exact ⟨s,List.mem_range.2 hs,List.mem_map.2 ⟨r,hr,rfl⟩⟩
theorem slx_cons {x:Int}{a b:List Int}:slx (x::a) (x::b)=slx a b:=by
 unfold slx
 rw [List.length_cons,List.length_cons]
 by_cases h:a.length=b.length
 ·rw [if_neg (show ¬ a.length+1≠b.length+1 by omega),if_neg (show ¬ a.length≠b.length by omega)]
  show (if x<x then (-1:Int) else if x<x then 1 else cmpL a b)=cmpL a b
  rw [if_neg (Int.lt_irrefl x),if_neg (Int.lt_irrefl x)]
 ·rw [if_pos (show a.length+1≠b.length+1 by omega),if_pos (show a.length≠b.length by omega)]
  by_cases h2:a.length<b.length
  ·rw [if_pos (show a.length+1<b.length+1 by omega),if_pos h2]
  ·rw [if_neg (show ¬ a.length+1<b.length+1 by omega),if_neg h2]
theorem slx_cons_lt {x y:Int}{a b:List Int}(hl:a.length=b.length)(h:x<y):slx (x::a) (y::b)<0:=by
 unfold slx
 rw [List.length_cons,List.length_cons,if_neg (by omega)]
 show (if x<y then (-1:Int) else if y<x then 1 else cmpL a b)<0
 rw [if_pos h];decide
theorem levelW_ord (ho:K.Pairwise fun a b=>slx a b<0)(hl:∀ u,u ∈ K→u.length=l):(levelW k K).Pairwise fun a b=>slx a b<0:=by
 unfold levelW
 refine List.pairwise_flatMap.2 ⟨fun s _=>?_,List.pairwise_lt_range.imp fun {s t} hst a ha b hb=>?_⟩
 ·refine List.pairwise_map.2 (ho.imp fun {a b} h=>?_)
  rw [slx_cons];exact h
 ·obtain ⟨x,hx,rfl⟩:=mm9 ha
  obtain ⟨y,hy,rfl⟩:=mm9 hb
  exact slx_cons_lt ((hl x hx).trans (hl y hy).symm) (by omega)
structure LevOK (k l:Nat) (K Lv:List (List Int)):Prop where
 len:∀ c,c ∈ Lv→c.length=l
 inW:∀ c,c ∈ Lv→InW k c
 tail:∀ c,c ∈ Lv→∀ s u,c=s::u→u ∈ K
 ord:Lv.Pairwise fun a b=>slx a b<0
 root:l=0→Lv=[[]]
 all:0<l→∀ u,u ∈ K→u.length+1=l→∀ s,s<k→((s+1:Nat):Int)::u ∈ Lv
structure SufO (k n B:Nat) (f:List Int→List Rat) (l:Nat) (Lv K:List (List Int)) (rs:List SRow):Prop where
 s:SufS k n B f (fun w=>InW k w∧w.length<l) K rs
 short:∀ u,u ∈ K→u.length<l
 lv:LevOK k l K Lv
structure SufI (k n B:Nat) (f:List Int→List Rat) (l:Nat) (Lv:List (List Int)) (i:Nat) (kept K:List (List Int)) (rs:List SRow):Prop where
 s:SufS k n B f (fun w=>(InW k w∧w.length<l) ∨ w ∈ Lv.take i) K rs
 split:∀ u,u ∈ K→u.length<l ∨ u ∈ Lv.take i
 ko:kept.Pairwise fun a b=>slx a b<0
 km:∀ u,u ∈ kept ↔ u ∈ K∧u.length=l
 lv:LevOK k l K Lv
theorem SufO.start:SufO k n B f 0 [[]] [] [] :=
 ⟨SufS.start.weaken fun w hw=>absurd hw.2 (Nat.not_lt_zero _),fun _ h=>(by cases h),⟨fun c hc=>(by rw [ms9 hc];rfl),fun c hc=>(by rw [ms9 hc];exact fun x hx=>by cases hx),fun c hc s u e=>(by rw [ms9 hc] at e;cases e),List.pairwise_singleton ..,fun _=>rfl,fun h=>absurd h (Nat.lt_irrefl _)⟩⟩
theorem SufO.begin (h:SufO k n B f l Lv K rs):SufI k n B f l Lv 0 [] K rs :=
 ⟨h.s.weaken fun w hw=>hw.elim id fun h=>(by cases h),fun u hu=>.inl (h.short u hu),List.Pairwise.nil,fun u=>⟨fun h=>(by cases h),fun ⟨h1,h2⟩=>by have:=h.short u h1;omega⟩,h.lv⟩
theorem SufI.before (h:SufI k n B f l Lv i kept K rs)(hi:i<Lv.length):∀ u,u ∈ K→slx u (Lv.getD i [])<0:=fun u hu=>by
 have hm:Lv.getD i [] ∈ Lv:=getD_mem hi []
 rcases h.split u hu with h1|h1
 ·exact slx_short (by rw [h.lv.len _ hm];exact h1)
 ·obtain ⟨t,ht,rfl⟩:=List.mem_iff_getElem.1 h1
  rw [List.length_take] at ht
  have e:Lv.getD i []=Lv[i]:=by rw [gd9,ge9 hi];rfl
  rw [e,List.getElem_take]
  exact List.pairwise_iff_getElem.1 h.lv.ord t i (by omega) hi (by omega)
theorem take_memI {α:Type}{Lv:List α}{d x:α}{i:Nat}(hi:i<Lv.length):x ∈ Lv.take (i+1) ↔ x ∈ Lv.take i ∨ x=Lv.getD i d:=by
 rw [take_snoc9 d hi,List.mem_append,List.mem_singleton]
theorem SufI.yes (h:SufI k n B f l Lv i kept K rs)(hi:i<Lv.length)(hfl:(f (Lv.getD i [])).length=n)(h1:1≤B)(hz:∀ j,sz ((f (Lv.getD i [])).getD j 0)≤B)(hg:growsS rs (f (Lv.getD i []))=true) :
  SufI k n B f l Lv (i+1) (kept++[Lv.getD i []]) (K++[Lv.getD i []]) (rs++[newR rs (f (Lv.getD i []))]):=by
 have hm:Lv.getD i [] ∈ Lv:=getD_mem hi []
 have hb:=h.before hi
 refine ⟨(h.s.grow hfl h1 hz (h.lv.inW _ hm) hb (h.lv.tail _ hm) hg).weaken fun w hw=>?_,fun u hu=>?_,?_,fun u=>?_,⟨h.lv.len,h.lv.inW,fun c hc s u e=>List.mem_append.2 (.inl (h.lv.tail c hc s u e)),h.lv.ord,h.lv.root,fun hp u hu hul=>?_⟩⟩
 ·rcases hw with hw|hw
  ·exact .inl (.inl hw)
  ·exact ((take_memI hi).1 hw).imp .inr id
 ·rcases mp9 hu with hu|hu
  ·exact (h.split u hu).imp id fun h=>(take_memI (d:=[]) hi).2 (.inl h)
  ·exact .inr ((take_memI hi).2 (.inr (ms9 hu)))
 ·refine List.pairwise_append.2 ⟨h.ko,List.pairwise_singleton ..,fun a ha b hb'=>?_⟩
  rw [ms9 hb']
  exact hb a ((h.km a).1 ha).1
 ·rw [List.mem_append,List.mem_append,h.km,List.mem_singleton]
  constructor
  ·rintro (⟨a,b⟩|rfl)
   ·exact ⟨.inl a,b⟩
   ·exact ⟨.inr rfl,h.lv.len _ hm⟩
  ·rintro ⟨a|rfl,b⟩
   ·exact .inl ⟨a,b⟩
   ·exact .inr rfl
 ·rcases mp9 hu with hu|hu
  ·exact h.lv.all hp u hu hul
  ·have:=h.lv.len _ hm
   rw [ms9 hu] at hul
   omega
theorem SufI.no (h:SufI k n B f l Lv i kept K rs)(hi:i<Lv.length)(hfl:(f (Lv.getD i [])).length=n)(hg:growsS rs (f (Lv.getD i []))=false):SufI k n B f l Lv (i+1) kept K rs :=
  ⟨(h.s.drop hfl (h.before hi) hg).weaken fun w hw => by
    rcases hw with hw|hw
    · exact .inl (.inl hw)
    · exact ((take_memI hi).1 hw).imp .inr id,fun u hu=>(h.split u hu).imp id fun h=>(take_memI (d:=[]) hi).2 (.inl h),h.ko,h.km,h.lv⟩
def StepF (k n:Nat)(f:List Int→List Rat):Prop:=∃ M:Mach,M.n=n∧M.k=k∧∀ w,InW k w→f w=vecM M w.reverse
theorem StepF.map (hf:StepF k n f){y:List Int}{s:Nat}{C:List (List Rat)}{U:List (List Int)}(hs:s<k)(hy:InW k y)(hU:∀ u,u ∈ U→InW k u)(h:SpanV n (U.map f) (vf (f y)))(hC:∀ u,u ∈ U→SpanV n C (vf (f (((s+1:Nat):Int)::u)))):SpanV n C (vf (f (((s+1:Nat):Int)::y))):=by
 obtain ⟨M,rfl,rfl,hM⟩:=hf
 have step:∀ u,InW M.k u→∀ j,j<M.n→(f (((s+1:Nat):Int)::u)).getD j 0=sumN (fun i=>vf (f u) i*entM M s i j) M.n:=fun u hu j hj=>by
  have hc:InW M.k (((s+1:Nat):Int)::u):=fun x hx=>by
   rcases List.mem_cons.1 hx with rfl|hx
   ·omega
   ·exact hu x hx
  rw [hM _ hc,hM u hu,List.reverse_cons,vecM_snoc,show (((s+1:Nat):Int)).toNat-1=s by omega,stepM_vf hj]
 have hmap:=h.map (C:=C) (stepM_lin M s) fun b hb=>by
  obtain ⟨u,hu,rfl⟩:=mm9 hb
  exact (hC u hu).congr fun j hj=>(step u (hU u hu) j hj).symm
 exact hmap.congr fun j hj=>step y hy j hj
theorem SufI.done (h:SufI k n B f l Lv Lv.length kept K rs)(hf:StepF k n f):SufO k n B f (l+1) (levelW k kept) K rs:=by
 have hkm:∀ u,u ∈ kept→u ∈ K∧u.length=l:=fun u hu=>(h.km u).1 hu
 have htk:Lv.take Lv.length=Lv:=List.take_length
 refine ⟨⟨h.s.sp,h.s.len,h.s.rows,h.s.kept,h.s.ord,h.s.inW,h.s.tail,fun w hw=>?_⟩,fun u hu=>?_,⟨fun c hc=>?_,fun c hc=>?_,fun c hc s u e=>?_,levelW_ord h.ko fun u hu=>(hkm u hu).2,fun h0=>(by cases h0),fun _ u hu hul s hs=>levelW_mem.2 ⟨s,hs,u,(h.km u).2 ⟨hu,by omega⟩,rfl⟩⟩⟩
 ·obtain ⟨hwi,hwl⟩:=hw
  by_cases hlt:w.length<l
  ·exact h.s.reach w (.inl ⟨hwi,hlt⟩)
  ·have hl:w.length=l:=by omega
   rcases Nat.eq_zero_or_pos l with h0|h0
   ·refine h.s.reach w (.inr ?_)
    rw [htk,h.lv.root h0,en9 (hl.trans h0)]
    exact List.mem_singleton.2 rfl
   ·have ha:=h.lv.all h0
    cases w with
    | nil =>
     have h1:0=l:=hl
     omega
    | cons x y =>
     have hx:=hwi x mc9
     obtain ⟨s,hs,rfl⟩:∃ s:Nat,s<k∧x=((s+1:Nat):Int):=⟨x.toNat-1,by omega,by omega⟩
     have hy:InW k y:=fun q hq=>hwi q (List.mem_cons_of_mem _ hq)
     rw [List.length_cons] at hl
     refine hf.map hs hy (fun u hu=>h.s.inW u (upTo_mem.1 hu).1) (h.s.reach y (.inl ⟨hy,by omega⟩)) fun u hu=>?_
     obtain ⟨hu1,hu2⟩:=upTo_mem.1 hu
     have hul:=slx_len hu2
     have hr:SpanV n ((upTo K (((s+1:Nat):Int)::u)).map f) (vf (f (((s+1:Nat):Int)::u))):=by
      refine h.s.reach _ ?_
      by_cases hc:u.length+1<l
      ·refine .inl ⟨fun q hq=>?_,by rw [List.length_cons];exact hc⟩
       rcases List.mem_cons.1 hq with rfl|hq
       ·omega
       ·exact h.s.inW u hu1 q hq
      ·refine .inr ?_
       rw [htk]
       exact ha u hu1 (by omega) s hs
     refine hr.mono fun b hb=>?_
     obtain ⟨z,hz,rfl⟩:=mm9 hb
     obtain ⟨hz1,hz2⟩:=upTo_mem.1 hz
     exact List.mem_map.2 ⟨z,upTo_mem.2 ⟨hz1,slx_trans hz2 (by rw [slx_cons];exact hu2)⟩,rfl⟩
 ·rcases h.split u hu with h1|h1
  ·omega
  ·rw [htk] at h1
   have:=h.lv.len u h1
   omega
 ·obtain ⟨s,_,r,hr,rfl⟩:=levelW_mem.1 hc
  rw [List.length_cons,(hkm r hr).2]
 ·obtain ⟨s,hs,r,hr,rfl⟩:=levelW_mem.1 hc
  intro x hx
  rcases List.mem_cons.1 hx with rfl|hx
  ·omega
  ·exact h.s.inW r (hkm r hr).1 x hx
 ·obtain ⟨s',_,r,hr,e'⟩:=levelW_mem.1 hc
  rw [e'] at e
  cases e
  exact (hkm _ hr).1
theorem SufO.all (h:SufO k n B f l [] K rs)(hf:StepF k n f)(hk:1≤k):∀ (q:Nat) (w:List Int),w.length=q→InW k w→SpanV n ((upTo K w).map f) (vf (f w)):=by
 have hl0:l≠0:=fun e=>by cases h.lv.root e
 have hno:∀ u,u ∈ K→u.length+1≠l:=fun u hu e=>by
  have:=h.lv.all (by omega) u hu e 0 hk
  cases this
 intro q
 induction q with
 | zero =>
  intro w hw hi
  exact h.s.reach w ⟨hi,by omega⟩
 | succ q ih =>
  intro w hw hi
  cases w with
  | nil=>cases hw
  | cons x y =>
   have hx:=hi x mc9
   obtain ⟨s,hs,rfl⟩:∃ s:Nat,s<k∧x=((s+1:Nat):Int):=⟨x.toNat-1,by omega,by omega⟩
   have hy:InW k y:=fun q hq=>hi q (List.mem_cons_of_mem _ hq)
   rw [List.length_cons] at hw
   refine hf.map hs hy (fun u hu=>h.s.inW u (upTo_mem.1 hu).1) (ih y (by omega) hy) fun u hu=>?_
   obtain ⟨hu1,hu2⟩:=upTo_mem.1 hu
   have h1:=h.short u hu1
   have h2:=hno u hu1
   refine (h.s.reach (((s+1:Nat):Int)::u) ⟨fun q hq=>?_,by rw [List.length_cons];omega⟩).mono fun b hb=>?_
   ·rcases List.mem_cons.1 hq with rfl|hq
    ·omega
    ·exact h.s.inW u hu1 q hq
   ·obtain ⟨z,hz,rfl⟩:=mm9 hb
    obtain ⟨hz1,hz2⟩:=upTo_mem.1 hz
    exact List.mem_map.2 ⟨z,upTo_mem.2 ⟨hz1,slx_trans hz2 (by rw [slx_cons];exact hu2)⟩,rfl⟩
end
end Go.AL

/-
  M, chapter 23: what the search answers, and the rank of a series.
-/
import Derived.Test.YtmcoihfkniccdaaGreatDoorKMod73
set_option linter.unusedVariables false
set_option linter.unusedSimpArgs false
namespace Go.AL
open Go Go.BigFrame
section
variable {n:Nat}
theorem last_bad {α:Type}(p:α→Prop):∀ l:List α,(∀ x,x ∈ l→p x) ∨ ∃ a x z,l=a++x::z∧¬ p x∧∀ y,y ∈ z→p y
 | []=>.inl fun _ h=>by cases h
 | x :: r => by
  rcases last_bad p r with h|⟨a,y,z,e,h1,h2⟩
  ·by_cases hx:p x
   ·exact .inl fun y hy=>(List.mem_cons.1 hy).elim (fun e=>e ▸ hx) (h y)
   ·exact .inr ⟨[],x,r,rfl,hx,h⟩
  ·exact .inr ⟨x::a,y,z,by rw [e];rfl,h1,h2⟩
def subR (n:Nat)(f:SRow→Rat)(r x:SRow):SRow:=⟨(List.range n).map fun i=>x.v.getD i 0-f x*r.v.getD i 0,x.c,x.p⟩
theorem subR_get {f:SRow→Rat}{r x:SRow}{i:Nat}(hi:i<n):(subR n f r x).v.getD i 0=x.v.getD i 0-f x*r.v.getD i 0:=map_getD_range _ _ hi
theorem span_len:∀ (C:List (List Rat)) (rs:List SRow),Ech n rs→(∀ r,r ∈ rs→SpanV n C (vf r.v))→rs.length≤C.length
 | [], rs, e, h => by
  cases rs with
  | nil=>exact Nat.le_refl _
  | cons r rs =>
   obtain ⟨p1,p2⟩:=e.piv r mc9
   cases h r mc9 with
   | zero h=>exact absurd (h _ p1) p2
   | add _ hb=>cases hb
 | c :: C, rs, e, h => by
  rcases last_bad (fun r:SRow=>SpanV n C (vf r.v)) rs with hall|⟨A,r,Z,rfl,hr,hZ⟩
  ·exact Nat.le_succ_of_le (span_len C rs e hall)
  ·obtain ⟨a,w,hw,ha⟩:=(h r (by simp)).split
   have ha0:a≠0:=fun e0=>hr (hw.congr fun i hi=>by rw [ha i hi,e0,Rat.zero_mul,Rat.zero_add])
   have hx:∀ x:SRow,∃ f:Rat,x ∈ A→SpanV n C fun i=>x.v.getD i 0-f*r.v.getD i 0:=fun x=>by
    by_cases hxA:x ∈ A
    ·obtain ⟨b,u,hu,hb⟩:=(h x (by simp [hxA])).split
     refine ⟨b / a,fun _=>(hu.plus (hw.smul (-(b / a)))).congr fun i hi=>?_⟩
     show x.v.getD i 0-b / a*r.v.getD i 0=u i + -(b / a)*w i
     rw [show x.v.getD i 0=b*c.getD i 0+u i from hb i hi,show r.v.getD i 0=a*c.getD i 0+w i from ha i hi,Rat.mul_add,← Rat.mul_assoc,Rat.div_mul_cancel ha0,Rat.sub_eq_add_neg,Rat.neg_add,Rat.neg_mul,Rat.add_comm (b*_),Rat.add_assoc,← Rat.add_assoc (b*_),Rat.add_neg_cancel,Rat.zero_add]
    ·exact ⟨0,fun k=>absurd k hxA⟩
   obtain ⟨f,hf⟩:=Classical.axiomOfChoice hx
   have hz:=List.pairwise_append.1 e.zero
   have hz2:=List.pairwise_cons.1 hz.2.1
   have hlen:=span_len C (A.map (subR n f r)++Z) ⟨fun y hy=>?_,?_⟩ fun y hy=>?_
   ·rw [la9,lm9] at hlen
    rw [la9,List.length_cons,List.length_cons];omega
   ·rcases mp9 hy with hy|hy
    ·obtain ⟨x,hxA,rfl⟩:=mm9 hy
     obtain ⟨p1,p2⟩:=e.piv x (by simp [hxA])
     refine ⟨p1,?_⟩
     rw [show (subR n f r x).p=x.p from rfl,subR_get p1,hz.2.2 x hxA r mc9,Rat.mul_zero,Rat.sub_eq_add_neg,Rat.neg_zero,Rat.add_zero]
     exact p2
    ·exact e.piv y (by simp [hy])
   ·refine List.pairwise_append.2 ⟨List.pairwise_map.2 (hz.1.imp_of_mem fun {x y} hxA hyA k=>?_),hz2.2,fun x hxm y hy=>?_⟩
    ·have p1:=(e.piv x (by simp [hxA])).1
     rw [show (subR n f r x).p=x.p from rfl,subR_get p1,k,hz.2.2 x hxA r mc9,Rat.mul_zero,Rat.sub_self]
    ·obtain ⟨x,hxA,rfl⟩:=mm9 hxm
     exact hz.2.2 x hxA y (List.mem_cons_of_mem _ hy)
   ·rcases mp9 hy with hy|hy
    ·obtain ⟨x,hxA,rfl⟩:=mm9 hy
     exact (hf x hxA).congr fun i hi=>subR_get hi
    ·exact hZ y hy
end
def Fac {α β:Type}(H:α→β→Rat)(r:Nat):Prop:=∃ (A:α→Nat→Rat) (B:Nat→β→Rat),∀ a b,H a b=sumN (fun k=>A a k*B k b) r
section
variable {α β:Type}{H G:α→β→Rat}{r s:Nat}
theorem Fac.turn (h:Fac H r):Fac (fun b a=>H a b) r :=
 have ⟨A,B,e⟩:=h
 ⟨fun b k=>B k b,fun k a=>A a k,fun b a=>by show H a b=_;rw [e];exact sumN_congr fun k _=>Rat.mul_comm ..⟩
theorem Fac.plus (h:Fac H r)(k:Fac G s):Fac (fun a b=>H a b+G a b) (r+s):=by
 obtain ⟨A,B,e⟩:=h
 obtain ⟨A2,B2,e2⟩:=k
 refine ⟨fun a k=>if k<r then A a k else A2 a (k-r),fun k b=>if k<r then B k b else B2 (k-r) b,fun a b=>?_⟩
 show H a b+G a b=_
 rw [sumN_app,e,e2]
 congr 1
 ·exact sumN_congr fun k hk=>by simp only [if_pos hk]
 ·exact sumN_congr fun k _=>by simp only [if_neg (show ¬ r+k<r by omega),Nat.add_sub_cancel_left]
theorem Fac.smul (h:Fac H r)(c:Rat):Fac (fun a b=>c*H a b) r :=
 have ⟨A,B,e⟩:=h
 ⟨fun a k=>c*A a k,B,fun a b=>by show c*H a b=_;rw [e,← sumN_mulL];exact sumN_congr fun k _=>(Rat.mul_assoc ..).symm⟩
theorem Fac.map {α2 β2:Type}(h:Fac H r)(f:α2→α)(g:β2→β):Fac (fun a b=>H (f a) (g b)) r :=
 have ⟨A,B,e⟩:=h
 ⟨fun a k=>A (f a) k,fun k b=>B k (g b),fun a b=>e _ _⟩
theorem Fac.zero:Fac H 0 ↔ ∀ a b,H a b=0 :=
 ⟨fun ⟨_,_,e⟩ a b=>by rw [e];rfl,fun h=>⟨fun _ _=>0,fun _ _=>0,fun a b=>by rw [h];rfl⟩⟩
structure RankT (H:α→β→Rat) (r:Nat):Prop where
 fac:Fac H r
 least:∀ s,Fac H s→r≤s
theorem RankT.unique (h:RankT H r)(k:RankT H s):r=s:=Nat.le_antisymm (h.least _ k.fac) (k.least _ h.fac)
theorem RankT.turn (h:RankT H r):RankT (fun b a=>H a b) r:=⟨h.fac.turn,fun s k=>h.least s k.turn⟩
theorem rank_of_rows {n:Nat}{rs:List SRow}(e:Ech n rs)(fac:Fac H rs.length)(V:List α)(cols:Nat→β)(hv:∀ r,r ∈ rs→SpanV n (V.map fun a=>(List.range n).map fun j=>H a (cols j)) (vf r.v)):RankT H rs.length :=
 ⟨fac,fun s ⟨A,B,hs⟩=>by
  have h:=span_len (n:=n) ((List.range s).map fun k=>(List.range n).map fun j=>B k (cols j)) rs e fun r hr=>(hv r hr).trans fun b hb=>by
   obtain ⟨a,_,rfl⟩:=mm9 hb
   have key:∀ t,t≤s→SpanV n ((List.range s).map fun k=>(List.range n).map fun j=>B k (cols j)) fun j=>sumN (fun k=>A a k*B k (cols j)) t:=by
    intro t
    induction t with
    | zero=>intro _;exact .zero fun _ _=>rfl
    | succ t ih =>
     intro ht
     refine .add (A a t) (List.mem_map.2 ⟨t,List.mem_range.2 (by omega),rfl⟩) (ih (by omega)) fun j hj=>?_
     rw [sumN,map_getD_range _ _ hj]
   exact (key s (Nat.le_refl s)).congr fun j hj=>by
    show ((List.range n).map fun j=>H a (cols j)).getD j 0=_
    rw [map_getD_range _ _ hj,hs]
  rw [lm9,List.length_range] at h
  exact h⟩
end
abbrev Wd (k:Nat):={ w:List Int // InW k w }
def turnM (m:Mach):Mach:=⟨m.n,m.fin,m.ini,m.mats.map fun M=>mtx m.n fun i j=>(M.getD j []).getD i 0⟩
def hankM (m:Mach)(u l:List Int):Rat:=dotM m.n (vf (vecM m u)) (vf (vecM (turnM m) l))
section
variable {m:Mach}{u l:List Int}{n:Nat}{B:List (List Rat)}
theorem turn_k:(turnM m).k=m.k:=by simp [Mach.k,turnM]
theorem turn_ok (h:m.Ok):(turnM m).Ok:=⟨h.fin,h.ini⟩
theorem turn_ent {s i j:Nat}(hs:s<m.k)(hi:i<m.n)(hj:j<m.n):entM (turnM m) s i j=entM m s j i:=by
 unfold entM turnM
 have e:(m.mats.map fun M=>mtx m.n fun i j=>(M.getD j []).getD i 0).getD s []=mtx m.n fun i j=>((m.mats.getD s []).getD j []).getD i 0:=by
  rw [gd9,List.getElem?_map,ge9 hs,gd9,ge9 hs];rfl
 rw [e,mtx_get hi hj]
theorem dot_step {v x:List Rat}{s:Nat}(hs:s<m.k):dotM m.n (vf (stepM m v s)) (vf x)=dotM m.n (vf v) (vf (stepM (turnM m) x s)):=by
 unfold dotM
 rw [show sumN (fun i=>vf (stepM m v s) i*vf x i) m.n=sumN (fun j=>sumN (fun i=>v.getD i 0*entM m s i j*x.getD j 0) m.n) m.n from sumN_congr fun j hj=>by
  show (stepM m v s).getD j 0*_=_
  rw [stepM_vf hj,← sumN_mulR]]
 rw [sumN_swap]
 refine sumN_congr fun i hi=>?_
 show _=v.getD i 0*(stepM (turnM m) x s).getD i 0
 rw [stepM_vf (m:=turnM m) hi,← sumN_mulL]
 refine sumN_congr fun j hj=>?_
 rw [turn_ent hs hj hi,Rat.mul_assoc,Rat.mul_comm (entM m s i j)]
theorem hank_wt:∀ (l u:List Int),InW m.k l→hankM m u l=wtM m (u++l.reverse):=by
 intro l
 induction hn:l.length generalizing l with
 | zero =>
  intro u _
  rw [en9 hn,List.reverse_nil,List.append_nil];rfl
 | succ n ih =>
  intro u hl
  have hne:l≠[]:=fun e=>by subst e;cases hn
  obtain ⟨y,x,rfl⟩:∃ y x,l=y++[x]:=⟨l.dropLast,l.getLast hne,(List.dropLast_concat_getLast hne).symm⟩
  have hx:=hl x (by simp)
  rw [List.reverse_append,List.reverse_singleton,List.singleton_append,show u++x::y.reverse=(u++[x])++y.reverse by simp,← ih y (by rw [la9,ls9] at hn;omega) (u++[x]) fun z hz=>hl z (List.mem_append.2 (.inl hz))]
  unfold hankM
  rw [vecM_snoc,vecM_snoc,← dot_step (by omega)]
theorem SpanV.coef {v:Nat→Rat}(h:SpanV n B v):∃ c:Nat→Rat,∀ i,i<n→v i=sumN (fun k=>c k*(B.getD k []).getD i 0) B.length:=by
 induction h with
 | zero h=>exact ⟨fun _=>0,fun i hi=>by rw [h i hi];exact (sumN_zero fun k _=>Rat.zero_mul _).symm⟩
 | @add u u' b a hb _ h ih =>
  obtain ⟨c,hc⟩:=ih
  obtain ⟨p,hp,e⟩:=List.mem_iff_getElem.1 hb
  refine ⟨fun k=>c k+if p=k then a else 0,fun i hi=>?_⟩
  rw [h i hi,hc i hi,show sumN (fun k=>(c k+if p=k then a else 0)*(B.getD k []).getD i 0) B.length=sumN (fun k=>c k*(B.getD k []).getD i 0) B.length+sumN (fun k=>if p=k then a*(B.getD k []).getD i 0 else 0) B.length by
   rw [← sumN_add]
   refine sumN_congr fun k _=>?_
   rw [Rat.add_mul]
   congr 1
   split
   ·rfl
   ·rw [Rat.zero_mul]]
  rw [sumN_pick (v:=fun k=>a*(B.getD k []).getD i 0) hp]
  rw [show B.getD p []=b by rw [gd9,ge9 hp,Option.getD_some,e]]
def viewM (m:Mach)(L:List (List Int))(u:List Int):List Rat:=(List.range L.length).map fun j=>hankM m u (L.getD j [])
theorem view_lin (m:Mach)(L:List (List Int)):LinM m.n L.length fun v j=>dotM m.n v (vf (vecM (turnM m) (L.getD j []))) :=
 ⟨fun u v h j _=>(dotM_lin m.n _).loc u v h 0 (by decide),fun u v c j _=>(dotM_lin m.n (vf (vecM (turnM m) (L.getD j [])))).add u v c 0 (by decide),fun j _=>(dotM_lin m.n (vf (vecM (turnM m) (L.getD j [])))).zero 0 (by decide)⟩
theorem rank_found {K L V V2:List (List Int)}{rs r1 r2:List SRow}(ok:m.Ok)(j:Join m V K [] r1)(j2:Join (turnM m) V2 L [] r2)(e:Ech L.length rs)(h1:∀ r,r ∈ rs→SpanV L.length (K.map (viewM m L)) (vf r.v))(h2:∀ u,u ∈ K→SpanV L.length (rowsS rs) (vf (viewM m L u))) :
  RankT (fun (u l:Wd m.k)=>hankM m u.1 l.1) rs.length:=by
 classical
 have inK:∀ u,u ∈ K→InW m.k u:=fun u hu=>j.bfs.inW u (.inl (j.bfs.sub u hu))
 have inL:∀ u,u ∈ L→InW m.k u:=fun u hu=>by have:=j2.bfs.inW u (.inl (j2.bfs.sub u hu));rwa [turn_k] at this
 have hv:∀ u,InW m.k u→SpanV L.length (rowsS rs) fun i=>hankM m u (L.getD i []):=fun u hu=>by
  have hs:=(j.bfs.reach u hu fun q hq=>by cases hq).mono (C:=vecs m K) fun b hb=>by
   obtain ⟨z,hz,rfl⟩:=mm9 hb
   exact List.mem_map.2 ⟨z,(upTo_mem.1 hz).1,rfl⟩
  refine hs.map (view_lin m L) fun b hb=>?_
  obtain ⟨z,hz,rfl⟩:=mm9 hb
  exact (h2 z hz).congr fun i hi=>by
   show _=(viewM m L z).getD i 0
   unfold viewM
   rw [map_getD_range _ _ hi];rfl
 have hl:∀ l,InW m.k l→SpanV m.n (vecs (turnM m) L) (vf (vecM (turnM m) l)):=fun l hl =>
  (j2.bfs.reach l (by rw [turn_k];exact hl) fun q hq=>by cases hq).mono fun b hb=>by
   obtain ⟨z,hz,rfl⟩:=mm9 hb
   exact List.mem_map.2 ⟨z,(upTo_mem.1 hz).1,rfl⟩
 obtain ⟨E,hE⟩:=Classical.axiomOfChoice (r:=fun (u:Wd m.k) (c:Nat→Rat)=>∀ i,i<L.length→hankM m u.1 (L.getD i [])=sumN (fun k=>c k*((rowsS rs).getD k []).getD i 0) (rowsS rs).length) fun u=>(hv u.1 u.2).coef
 obtain ⟨D,hD⟩:=Classical.axiomOfChoice (r:=fun (l:Wd m.k) (c:Nat→Rat)=>∀ i,i<m.n→vf (vecM (turnM m) l.1) i=sumN (fun k=>c k*((vecs (turnM m) L).getD k []).getD i 0) (vecs (turnM m) L).length) fun l=>(hl l.1 l.2).coef
 have hrl:(rowsS rs).length=rs.length:=by simp [rowsS]
 have hll:(vecs (turnM m) L).length=L.length:=by simp [vecs]
 have hfac:Fac (fun (u l:Wd m.k)=>hankM m u.1 l.1) rs.length:=by
  refine ⟨E,fun k l=>sumN (fun i=>D l i*((rowsS rs).getD k []).getD i 0) L.length,fun u l=>?_⟩
  show hankM m u.1 l.1=_
  have e1:hankM m u.1 l.1=sumN (fun i=>D l i*hankM m u.1 (L.getD i [])) L.length:=by
   unfold hankM dotM
   rw [show sumN (fun i=>vf (vecM m u.1) i*vf (vecM (turnM m) l.1) i) m.n=sumN (fun i=>sumN (fun k=>D l k*(vf (vecM m u.1) i*vf (vecM (turnM m) (L.getD k [])) i)) L.length) m.n from sumN_congr fun i hi=>by
    rw [hD l i hi,hll,← sumN_mulL]
    refine sumN_congr fun k hk=>?_
    rw [show (vecs (turnM m) L).getD k []=vecM (turnM m) (L.getD k []) by
     unfold vecs
     rw [gd9,List.getElem?_map,ge9 hk,gd9,ge9 hk];rfl]
    rw [← Rat.mul_assoc,← Rat.mul_assoc,Rat.mul_comm (vf (vecM m u.1) i)]]
   rw [sumN_swap]
   exact sumN_congr fun k _=>by rw [sumN_mulL]
  rw [e1,show sumN (fun i=>D l i*hankM m u.1 (L.getD i [])) L.length=sumN (fun i=>sumN (fun k=>E u k*(D l i*((rowsS rs).getD k []).getD i 0)) rs.length) L.length from sumN_congr fun i hi=>by
   rw [hE u i hi,hrl,← sumN_mulL]
   exact sumN_congr fun k _=>by rw [← Rat.mul_assoc,← Rat.mul_assoc,Rat.mul_comm (D l i)]]
  rw [sumN_swap]
  exact sumN_congr fun k _=>by rw [sumN_mulL]
 refine rank_of_rows e hfac (K.filterMap fun u=>if h:InW m.k u then some ⟨u,h⟩ else none) (fun i=>if h:InW m.k (L.getD i []) then ⟨L.getD i [],h⟩ else ⟨[],fun x hx=>by cases hx⟩) fun r hr=>(h1 r hr).mono fun b hb=>?_
 obtain ⟨u,hu,rfl⟩:=mm9 hb
 refine List.mem_map.2 ⟨⟨u,inK u hu⟩,List.mem_filterMap.2 ⟨u,hu,by rw [dif_pos (inK u hu)]⟩,?_⟩
 refine List.map_congr_left fun i hi=>?_
 have hi:=List.mem_range.1 hi
 rw [dif_pos (inL _ (getD_mem hi []))]
end
def SzR (B:Nat)(rs:List SRow):Prop:=∀ k r,rs[k]? = some r→(∀ i,sz (r.v.getD i 0)+1≤4 ^ k*(B+1))∧∀ i,sz (r.c.getD i 0)+1≤4 ^ k*(B+1)
section
variable {B:Nat}{rs:List SRow}{w t:List Rat}
theorem range_sz {f:Nat→Rat}{C:Nat}(n:Nat)(hC:1≤C)(h:∀ i,sz (f i)≤C)(i:Nat):sz (((List.range n).map f).getD i 0)≤C:=by
 rcases Nat.lt_or_ge i n with hi|hi
 ·rw [map_getD_range _ _ hi];exact h i
 ·rw [gd9,List.getElem?_eq_none (by simp;exact hi),Option.getD_none,sz_zero];exact hC
theorem qot_sz {r:SRow}{C:Nat}(hw:∀ i,sz (w.getD i 0)+1≤C)(hr:∀ i,sz (r.v.getD i 0)+1≤C):sz (qotR w r)+2≤2*C:=by
 have h:=sz_div (w.getD r.p 0) (r.v.getD r.p 0)
 have h1:=hw r.p
 have h2:=hr r.p
 unfold qotR
 omega
theorem step_sz {r:SRow}{C:Nat}(hw:∀ i,sz (w.getD i 0)+1≤C)(hr:∀ i,sz (r.v.getD i 0)+1≤C)(i:Nat):sz ((redStep w r).getD i 0)+1≤4*C:=by
 have hC:1≤C:=Nat.le_trans (Nat.le_add_left 1 _) (hw 0)
 have key:sz ((redStep w r).getD i 0)≤4*C-1:=range_sz w.length (f:=fun i=>w.getD i 0-qotR w r*r.v.getD i 0) (by omega) (fun i=>by
  have h1:=sz_sub (w.getD i 0) (qotR w r*r.v.getD i 0)
  have h2:=sz_mul (qotR w r) (r.v.getD i 0)
  have h3:=qot_sz hw hr
  have h4:=hw i
  have h5:=hr i
  omega) i
 omega
theorem addC_sz {r:SRow}{C:Nat}(hw:∀ i,sz (w.getD i 0)+1≤C)(ht:∀ i,sz (t.getD i 0)+1≤C)(hr:∀ i,sz (r.v.getD i 0)+1≤C)(hc:∀ i,sz (r.c.getD i 0)+1≤C)(i:Nat):sz ((addC t (qotR w r) r.c).getD i 0)+1≤4*C:=by
 have hC:1≤C:=Nat.le_trans (Nat.le_add_left 1 _) (hw 0)
 have key:sz ((addC t (qotR w r) r.c).getD i 0)≤4*C-1:=range_sz t.length (f:=fun i=>t.getD i 0+qotR w r*r.c.getD i 0) (by omega) (fun i=>by
  have h1:=sz_add (t.getD i 0) (qotR w r*r.c.getD i 0)
  have h2:=sz_mul (qotR w r) (r.c.getD i 0)
  have h3:=qot_sz hw hr
  have h4:=ht i
  have h5:=hc i
  omega) i
 omega
theorem red_szJ:∀ (rs:List SRow) (j:Nat) (w:List Rat),(∀ k r,rs[k]? = some r→∀ i,sz (r.v.getD i 0)+1≤4 ^ (j+k)*(B+1))→(∀ i,sz (w.getD i 0)+1≤4 ^ j*(B+1))→∀ i,sz ((redV rs w).getD i 0)+1≤4 ^ (j+rs.length)*(B+1)
 | [],_,_,_,hw,i=>hw i
 | r :: rs, j, w, h, hw, i => by
  have h0:=h 0 r rfl
  rw [Nat.add_zero] at h0
  have:=red_szJ rs (j+1) (redStep w r) (fun k q hq=>by
   have:=h (k+1) q hq
   rwa [show j+(k+1)=j+1+k by omega] at this) (fun i=>by
   have:=step_sz hw h0 i
   rwa [Nat.pow_succ,Nat.mul_comm (4 ^ j),Nat.mul_assoc]) i
  rwa [redV,List.length_cons,show j+(rs.length+1)=j+1+rs.length by omega]
theorem redC_szJ:∀ (rs:List SRow) (j:Nat) (w t:List Rat),(∀ k r,rs[k]? = some r→(∀ i,sz (r.v.getD i 0)+1≤4 ^ (j+k)*(B+1))∧∀ i,sz (r.c.getD i 0)+1≤4 ^ (j+k)*(B+1))→(∀ i,sz (w.getD i 0)+1≤4 ^ j*(B+1))→(∀ i,sz (t.getD i 0)+1≤4 ^ j*(B+1)) →
  ∀ i,sz ((redC rs w t).getD i 0)+1≤4 ^ (j+rs.length)*(B+1)
 | [],_,_,_,_,_,ht,i=>ht i
 | r :: rs, j, w, t, h, hw, ht, i => by
  have h0:=h 0 r rfl
  rw [Nat.add_zero] at h0
  have:=redC_szJ rs (j+1) (redStep w r) (addC t (qotR w r) r.c) (fun k q hq=>by
   have:=h (k+1) q hq
   rwa [show j+(k+1)=j+1+k by omega] at this) (fun i=>by
   have:=step_sz hw h0.1 i
   rwa [Nat.pow_succ,Nat.mul_comm (4 ^ j),Nat.mul_assoc]) (fun i=>by
   have:=addC_sz hw ht h0.1 h0.2 i
   rwa [Nat.pow_succ,Nat.mul_comm (4 ^ j),Nat.mul_assoc]) i
  rwa [redC,List.length_cons,show j+(rs.length+1)=j+1+rs.length by omega]
theorem SzR.nil:SzR B []:=fun k r h=>by cases h
theorem SzR.take (h:SzR B rs)(j:Nat):SzR B (rs.take j):=fun k r hk=>by
 rw [List.getElem?_take] at hk
 split at hk
 ·exact h k r hk
 ·cases hk
theorem SzR.red (h:SzR B rs)(hw:∀ i,sz (w.getD i 0)≤B)(i:Nat):sz ((redV rs w).getD i 0)+1≤4 ^ rs.length*(B+1):=by
 have:=red_szJ rs 0 w (fun k r hk=>by rw [Nat.zero_add];exact (h k r hk).1) (fun i=>by rw [Nat.pow_zero,Nat.one_mul];have:=hw i;omega) i
 rwa [Nat.zero_add] at this
theorem rep_zero (n i:Nat):(List.replicate n (0:Rat)).getD i 0=0:=by
 rw [gd9,List.getElem?_replicate]
 split <;> rfl
theorem SzR.redC (h:SzR B rs)(h1:1≤B)(hw:∀ i,sz (w.getD i 0)≤B)(n i:Nat):sz ((Go.AL.redC rs w (List.replicate n 0)).getD i 0)+1≤4 ^ rs.length*(B+1):=by
 have:=redC_szJ rs 0 w (List.replicate n 0) (fun k r hk=>by rw [Nat.zero_add];exact h k r hk) (fun i=>by rw [Nat.pow_zero,Nat.one_mul];have:=hw i;omega) (fun i=>by rw [Nat.pow_zero,Nat.one_mul,rep_zero,sz_zero];omega) i
 rwa [Nat.zero_add] at this
theorem pow4_pos (k:Nat):1≤4 ^ k:=Nat.one_le_pow _ _ (by decide)
theorem SzR.byS (h:SzR B rs)(h1:1≤B)(hw:∀ i,sz (w.getD i 0)≤B)(i:Nat):sz ((Go.AL.byS rs w).getD i 0)+1≤4 ^ rs.length*(B+1):=by
 have hp:B+1≤4 ^ rs.length*(B+1):=Nat.le_mul_of_pos_left _ (pow4_pos _)
 have hl:((takenS rs w).map fun x=>-x).length=(takenS rs w).length:=lm9 ..
 unfold Go.AL.byS
 rw [gd9]
 rcases Nat.lt_or_ge i (takenS rs w).length with hi|hi
 ·rw [List.getElem?_append_left (by rw [hl];exact hi),List.getElem?_map,ge9 hi,Option.map_some,Option.getD_some,sz_neg]
  have:=h.redC h1 hw rs.length i
  rw [gd9,show Go.AL.redC rs w (List.replicate rs.length 0)=takenS rs w from rfl,ge9 hi,Option.getD_some] at this
  exact this
 ·rw [List.getElem?_append_right (by rw [hl];exact hi),hl]
  rcases Nat.eq_zero_or_pos (i-(takenS rs w).length) with h0|h0
  ·rw [h0]
   show sz 1+1≤_
   rw [sz_one];omega
  ·rw [List.getElem?_eq_none (by rw [ls9];exact h0),Option.getD_none,sz_zero];omega
theorem SzR.grow (h:SzR B rs)(h1:1≤B)(hw:∀ i,sz (w.getD i 0)≤B):SzR B (rs++[newR rs w]):=fun k r hk=>by
 rcases Nat.lt_or_ge k rs.length with hi|hi
 ·rw [List.getElem?_append_left hi] at hk
  exact h k r hk
 ·rw [List.getElem?_append_right hi] at hk
  rcases Nat.eq_zero_or_pos (k-rs.length) with h0|h0
  ·rw [h0] at hk
   cases hk
   have e:k=rs.length:=by omega
   subst e
   exact ⟨fun i=>h.red hw i,fun i=>h.byS h1 hw i⟩
  ·rw [List.getElem?_eq_none (by rw [ls9];exact h0)] at hk;cases hk
theorem SzR.add (h:SzR B rs)(h1:1≤B)(hw:∀ i,sz (w.getD i 0)≤B):SzR B (addS rs w):=by
 unfold addS
 split
 ·exact h.grow h1 hw
 ·exact h
end
def Ans (m:Mach):Option (List Int)→Prop
 | none=>∀ w,InW m.k w→wtM m w=0
 | some w=>FirstNZ m w
section
variable {m m2:Mach}{V K Q:List (List Int)}{rs:List SRow}{w:List Int}{o p:Option (List Int)}
theorem Ans.unique (h:Ans m o)(k:Ans m p):o=p:=by
 cases o with
 | none =>
  cases p with
  | none=>rfl
  | some w=>exact absurd (h w k.inW) k.nz
 | some v =>
  cases p with
  | none=>exact absurd (k v h.inW) h.nz
  | some w=>rw [FirstNZ.unique h k]
theorem Ans.congr (hk:m2.k=m.k)(e:∀ w,InW m.k w→(wtM m w=0 ↔ wtM m2 w=0))(h:Ans m o):Ans m2 o:=by
 cases o with
 | none=>exact fun w hw=>(e w (hk ▸ hw)).1 (h w (hk ▸ hw))
 | some v=>exact ⟨hk ▸ h.inW,fun z=>h.nz ((e v h.inW).2 z),fun u hu hl=>(e u (hk ▸ hu)).1 (h.before u (hk ▸ hu) hl)⟩
structure LenK (K Q:List (List Int)):Prop where
 kept:∀ (i:Nat) (u:List Int),K[i]? = some u→u.length≤i
 open_:∀ q:List Int,q ∈ Q→q.length≤K.length
theorem LenK.start:LenK [] [[]]:=⟨fun i u h=>(by cases h),fun q h=>(by rw [ms9 h];exact Nat.le_refl _)⟩
theorem LenK.drop (h:LenK K (w::Q)):LenK K Q:=⟨h.kept,fun q hq=>h.open_ q (List.mem_cons_of_mem _ hq)⟩
theorem LenK.keep {k:Nat}(h:LenK K (w::Q)):LenK (K++[w]) (Q++kidsW k w):=by
 have hw:=h.open_ w mc9
 refine ⟨fun i u hi=>?_,fun q hq=>?_⟩
 ·rcases Nat.lt_or_ge i K.length with hl|hl
  ·rw [List.getElem?_append_left hl] at hi
   exact h.kept i u hi
  ·rw [List.getElem?_append_right hl] at hi
   rcases Nat.eq_zero_or_pos (i-K.length) with h0|h0
   ·rw [h0] at hi;cases hi;omega
   ·rw [List.getElem?_eq_none (by rw [ls9];exact h0)] at hi;cases hi
 ·rw [la9,ls9]
  rcases mp9 hq with hq|hq
  ·have:=h.open_ q (List.mem_cons_of_mem _ hq);omega
  ·obtain ⟨s,_,rfl⟩:=kidsW_mem.1 hq
   rw [la9,ls9];omega
theorem Join.new (ok:m.Ok)(j:Join m V K (w::Q) rs)(hz:ZeroK m K)(hn:wtM m w≠0):growsS rs (vecM m w)=true:=by
 cases hg:growsS rs (vecM m w) with
 | true=>rfl
 | false =>
  refine absurd ?_ hn
  have hs:=((grows_iff j.ech (vecM_len ok w)).1 hg).trans fun b hb=>by
   obtain ⟨r,hr,rfl⟩:=mm9 hb
   exact j.rows r hr
  refine hs.kill (L:=fun u _=>dotM m.n u (vf m.fin)) (dotM_lin m.n (vf m.fin)) fun b hb=>?_
  obtain ⟨u,hu,rfl⟩:=mm9 hb
  exact hz u hu
theorem ZeroK.add (hz:ZeroK m K)(h:wtM m w=0):ZeroK m (K++[w]):=fun u hu=>(mp9 hu).elim (hz u) fun hu=>by rw [ms9 hu];exact h
theorem ans_search (ok:m.Ok):∀ (N:Nat) (V K Q:List (List Int)) (rs:List SRow),Join m V K Q rs→ZeroK m K→LenK K Q→leftM m Q rs≤N→∃ o,Ans m o∧∀ w,o=some w→w.length<m.n:=by
 intro N
 induction N with
 | zero =>
  intro V K Q rs j hz _ hN
  cases Q with
  | nil=>exact ⟨none,j.bfs.none hz,fun w h=>(by cases h)⟩
  | cons w Q=>unfold leftM at hN;rw [List.length_cons] at hN;omega
 | succ N ih =>
  intro V K Q rs j hz hl hN
  cases Q with
  | nil=>exact ⟨none,j.bfs.none hz,fun w h=>(by cases h)⟩
  | cons w Q =>
   by_cases h0:wtM m w=0
   ·cases hg:growsS rs (vecM m w) with
    | true=>exact ih _ _ _ _ (j.keep ok hg) (hz.add h0) hl.keep (by have:=left_keep ok j hg;omega)
    | false=>exact ih _ _ _ _ (j.drop ok hg) hz hl.drop (by have:=left_drop (m:=m) (Q:=Q) (rs:=rs) (w:=w);omega)
   ·refine ⟨some w,j.bfs.first hz h0,fun v e=>?_⟩
    cases e
    have h1:=(j.keep ok (j.new ok hz h0)).le
    have h2:=hl.open_ w mc9
    have h3:=j.len
    rw [la9,ls9] at h1
    omega
theorem ans_ex (ok:m.Ok):∃ o,Ans m o∧∀ w,o=some w→w.length<m.n:=ans_search ok _ _ _ _ _ (Join.start m) (fun _ h=>by cases h) LenK.start (Nat.le_refl _)
open Classical in
noncomputable def firstNZ (m:Mach):Option (List Int):=if h:∃ o,Ans m o then h.choose else none
theorem firstNZ_ans (ok:m.Ok):Ans m (firstNZ m):=by
 have h:∃ o,Ans m o:=(ans_ex ok).imp fun _ h=>h.1
 unfold firstNZ
 rw [dif_pos h]
 exact h.choose_spec
theorem firstNZ_eq (h:Ans m o):firstNZ m=o:=by
 have h':∃ o,Ans m o:=⟨o,h⟩
 unfold firstNZ
 rw [dif_pos h']
 exact Ans.unique h'.choose_spec h
theorem firstNZ_none (ok:m.Ok):firstNZ m=none ↔ ∀ w,InW m.k w→wtM m w=0 :=
 ⟨fun h=>by have:=firstNZ_ans ok;rw [h] at this;exact this,fun h=>firstNZ_eq (o:=none) h⟩
theorem firstNZ_congr (ok:m.Ok)(hk:m2.k=m.k)(e:∀ w,InW m.k w→(wtM m w=0 ↔ wtM m2 w=0)):firstNZ m2=firstNZ m:=firstNZ_eq ((firstNZ_ans ok).congr hk e)
end
theorem least_ex {p:Nat→Prop}:∀ n,p n→∃ r,p r∧∀ s,p s→r≤s:=by
 intro n
 induction n using Nat.strongRecOn with
 | ind n ih =>
  intro h
  by_cases hx:∃ k,k<n∧p k
  ·obtain ⟨k,hk,hp⟩:=hx
   exact ih k hk hp
  ·exact ⟨n,h,fun s hs=>Decidable.byContradiction fun hlt=>hx ⟨s,by omega,hs⟩⟩
def tabF (k:Nat)(f:List Int→Rat):Wd k→Wd k→Rat:=fun u l=>f (u.1++l.1.reverse)
theorem rank_ex {α β:Type}{H:α→β→Rat}{n:Nat}(h:Fac H n):∃ r,RankT H r :=
 have ⟨r,h1,h2⟩:=least_ex (p:=Fac H) n h
 ⟨r,h1,h2⟩
open Classical in
noncomputable def rankF (k:Nat)(f:List Int→Rat):Nat:=if h:∃ r,RankT (tabF k f) r then h.choose else 0
section
variable {m:Mach}{k r:Nat}{f g:List Int→Rat}
theorem rankF_eq (h:RankT (tabF k f) r):rankF k f=r:=by
 have h':∃ r,RankT (tabF k f) r:=⟨r,h⟩
 unfold rankF
 rw [dif_pos h']
 exact RankT.unique h'.choose_spec h
theorem rankF_spec {n:Nat}(h:Fac (tabF k f) n):RankT (tabF k f) (rankF k f):=by
 obtain ⟨r,hr⟩:=rank_ex h
 rw [rankF_eq hr];exact hr
theorem inW_cat {u l:List Int}(hu:InW k u)(hl:InW k l):InW k (u++l.reverse):=fun x hx=>(mp9 hx).elim (hu x) fun h=>hl x (List.mem_reverse.1 h)
theorem tab_congr (h:∀ w,InW k w→f w=g w):tabF k f=tabF k g:=by
 funext u l
 exact h _ (inW_cat u.2 l.2)
theorem fac_mach (m:Mach):Fac (tabF m.k (wtM m)) m.n :=
 ⟨fun u i=>vf (vecM m u.1) i,fun i l=>vf (vecM (turnM m) l.1) i,fun u l=>(hank_wt l.1 u.1 l.2).symm⟩
theorem rank_mach (m:Mach):RankT (tabF m.k (wtM m)) (rankF m.k (wtM m)):=rankF_spec (fac_mach m)
theorem rank_turn {s:Nat}(h:RankT (tabF k f) r)(h2:RankT (tabF k fun w=>f w.reverse) s):s=r:=by
 have e:tabF k (fun w=>f w.reverse)=fun b a=>tabF k f a b:=by
  funext u l
  unfold tabF
  show f (u.1++l.1.reverse).reverse=f (l.1++u.1.reverse)
  rw [List.reverse_append,List.reverse_reverse]
 rw [e] at h2
 exact h2.unique h.turn
end
end Go.AL

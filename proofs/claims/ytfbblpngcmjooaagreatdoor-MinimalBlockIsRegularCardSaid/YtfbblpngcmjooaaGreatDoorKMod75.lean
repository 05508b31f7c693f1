/-
  M, chapters 23 and 24: the rank of a machine's series, as the code finds it.
-/
import Derived.Test.YtfbblpngcmjooaaGreatDoorKMod71
set_option linter.unusedVariables false
set_option linter.unusedSimpArgs false
namespace Go.AL
open Go Go.BigFrame
def firstP (w:List Rat):Nat:=w.findIdx fun x=>decide (x≠0)
def addC (t:List Rat)(f:Rat)(c:List Rat):List Rat:=(List.range t.length).map fun i=>t.getD i 0+f*c.getD i 0
def redC:List SRow→List Rat→List Rat→List Rat
 | [],_,t=>t
 | r::rs,w,t=>redC rs (redStep w r) (addC t (qotR w r) r.c)
def takenS (rs:List SRow)(w:List Rat):List Rat:=redC rs w (List.replicate rs.length 0)
def byS (rs:List SRow)(w:List Rat):List Rat:=(takenS rs w).map (fun x=>-x)++[1]
def newR (rs:List SRow)(w:List Rat):SRow:=⟨redV rs w,byS rs w,firstP (redV rs w)⟩
def growsS (rs:List SRow)(w:List Rat):Bool:=decide (firstP (redV rs w)<(redV rs w).length)
def addS (rs:List SRow)(w:List Rat):List SRow:=if growsS rs w=true then rs++[newR rs w] else rs
section
variable {n:Nat}{rs:List SRow}{w:List Rat}
theorem firstP_le (w:List Rat):firstP w≤w.length:=List.findIdx_le_length
theorem firstP_nz (h:firstP w<w.length):w.getD (firstP w) 0≠0:=by
 have:=List.findIdx_getElem (w:=h)
 rw [gd9,ge9 h,Option.getD_some]
 exact of_decide_eq_true this
theorem firstP_before {i:Nat}(h:i<firstP w):w.getD i 0=0:=by
 have hl:=Nat.lt_of_lt_of_le h (firstP_le w)
 have:=List.not_of_lt_findIdx h
 rw [gd9,ge9 hl,Option.getD_some]
 simpa using this
theorem firstP_all:firstP w=w.length ↔ allZ w:=by
 constructor
 ·intro h i hi
  exact firstP_before (by omega)
 ·intro h
  have:=firstP_le w
  rcases Nat.lt_or_ge (firstP w) w.length with h1|h1
  ·exact absurd (h _ h1) (firstP_nz h1)
  ·omega
theorem grows_iff (e:Ech n rs)(hw:w.length=n):growsS rs w=false ↔ SpanV n (rowsS rs) (vf w):=by
 rw [← red_iff e hw,← firstP_all]
 have:=firstP_le (redV rs w)
 unfold growsS
 rw [decide_eq_false_iff_not]
 omega
theorem addC_len (t:List Rat)(f:Rat)(c:List Rat):(addC t f c).length=t.length:=by simp [addC]
theorem redC_len:∀ (rs:List SRow) (w t:List Rat),(redC rs w t).length=t.length
 | [],_,_=>rfl
 | r::rs,w,t=>by rw [redC,redC_len rs,addC_len]
theorem takenS_len (rs:List SRow)(w:List Rat):(takenS rs w).length=rs.length:=by rw [takenS,redC_len,List.length_replicate]
theorem byS_len (rs:List SRow)(w:List Rat):(byS rs w).length=rs.length+1:=by rw [byS,la9,lm9,takenS_len];rfl
end
structure Join (m:Mach) (V K Q:List (List Int)) (rs:List SRow):Prop where
 bfs:BFS m V K Q
 ech:Ech m.n rs
 len:rs.length=K.length
 rows:∀ r,r ∈ rs→SpanV m.n (vecs m K) (vf r.v)
 kept:∀ u,u ∈ K→SpanV m.n (rowsS rs) (vf (vecM m u))
section
variable {m:Mach}{V K Q:List (List Int)}{rs:List SRow}{w:List Int}
theorem Join.start (m:Mach):Join m [] [] [[]] [] :=
 ⟨BFS.start m,⟨fun _ h=>(by cases h),List.Pairwise.nil⟩,rfl,fun _ h=>(by cases h),fun _ h=>(by cases h)⟩
theorem Join.drop (ok:m.Ok)(j:Join m V K (w::Q) rs)(h:growsS rs (vecM m w)=false):Join m (V++[w]) K Q rs :=
 ⟨j.bfs.drop (((grows_iff j.ech (vecM_len ok w)).1 h).trans fun b hb=>by
  obtain ⟨r,hr,rfl⟩:=List.mem_map.1 hb
  exact j.rows r hr),j.ech,j.len,j.rows,j.kept⟩
theorem rowsS_app (rs:List SRow)(r:SRow):rowsS (rs++[r])=rowsS rs++[r.v]:=by simp [rowsS]
theorem Join.keep (ok:m.Ok)(j:Join m V K (w::Q) rs)(h:growsS rs (vecM m w)=true):Join m (V++[w]) (K++[w]) (Q++kidsW m.k w) (rs++[newR rs (vecM m w)]):=by
 have hl:=vecM_len ok w
 have hp:firstP (redV rs (vecM m w))<(redV rs (vecM m w)).length:=of_decide_eq_true h
 have hs:=redV_span rs (vecM m w)
 rw [hl] at hs
 refine ⟨j.bfs.keep,j.ech.grow hl _ (by rw [redV_len,hl] at hp;exact hp) (firstP_nz hp),?_,fun r hr=>?_,fun u hu=>?_⟩
 ·rw [la9,la9,j.len];rfl
 ·rcases List.mem_append.1 hr with hr|hr
  ·exact (j.rows r hr).mono fun b hb=>by
    obtain ⟨u,hu,rfl⟩:=List.mem_map.1 hb
    exact List.mem_map.2 ⟨u,List.mem_append.2 (.inl hu),rfl⟩
  ·rw [List.mem_singleton.1 hr]
   have h1:SpanV m.n (vecs m (K++[w])) (vf (vecM m w)):=.mem (List.mem_map.2 ⟨w,List.mem_append.2 (.inr (List.mem_singleton.2 rfl)),rfl⟩)
   have h2:=(hs.trans fun b hb=>by
    obtain ⟨r,hr,rfl⟩:=List.mem_map.1 hb
    exact (j.rows r hr).mono fun b hb=>by
     obtain ⟨u,hu,rfl⟩:=List.mem_map.1 hb
     exact List.mem_map.2 ⟨u,List.mem_append.2 (.inl hu),rfl⟩:SpanV m.n (vecs m (K++[w])) _)
   refine (h1.plus (h2.smul (-1))).congr fun i _=>?_
   show (redV rs (vecM m w)).getD i 0=(vecM m w).getD i 0 + -1*((vecM m w).getD i 0-(redV rs (vecM m w)).getD i 0)
   rw [Rat.neg_mul,Rat.one_mul,Rat.neg_sub,Rat.sub_eq_add_neg,Rat.add_comm ((vecM m w).getD i 0),Rat.add_assoc,Rat.neg_add_cancel,Rat.add_zero]
 ·rw [rowsS_app]
  rcases List.mem_append.1 hu with hu|hu
  ·exact (j.kept u hu).mono fun b hb=>List.mem_append.2 (.inl hb)
  ·rw [List.mem_singleton.1 hu]
   have h1:=hs.mono (C:=rowsS rs++[redV rs (vecM m w)]) fun b hb=>List.mem_append.2 (.inl hb)
   have h2:SpanV m.n (rowsS rs++[redV rs (vecM m w)]) (vf (redV rs (vecM m w))):=.mem (List.mem_append.2 (.inr (List.mem_singleton.2 rfl)))
   refine (h1.plus h2).congr fun i _=>?_
   show (vecM m w).getD i 0=(vecM m w).getD i 0-(redV rs (vecM m w)).getD i 0+(redV rs (vecM m w)).getD i 0
   rw [Rat.sub_add_cancel]
theorem Join.le (j:Join m V K Q rs):rs.length≤m.n:=j.ech.len
def leftM (m:Mach)(Q:List (List Int))(rs:List SRow):Nat:=Q.length+(m.k+1)*(m.n-rs.length)
theorem left_keep (ok:m.Ok)(j:Join m V K (w::Q) rs)(h:growsS rs (vecM m w)=true):leftM m (Q++kidsW m.k w) (rs++[newR rs (vecM m w)])<leftM m (w::Q) rs:=by
 have h1:=(j.keep ok h).le
 rw [la9,ls9] at h1
 unfold leftM
 rw [show (Q++kidsW m.k w).length=Q.length+(kidsW m.k w).length from la9,show (rs++[newR rs (vecM m w)]).length=rs.length+1 by simp,show (w::Q).length=Q.length+1 from rfl,show (kidsW m.k w).length=m.k by simp [kidsW]]
 obtain ⟨d,hd⟩:∃ d,m.n-rs.length=d+1:=⟨m.n-rs.length-1,by omega⟩
 rw [hd,show m.n-(rs.length+1)=d by omega,Nat.mul_succ]
 omega
theorem left_drop:leftM m Q rs<leftM m (w::Q) rs:=by
 unfold leftM
 rw [List.length_cons];omega
end
structure Arc9 where
 f:Nat
 l:Nat
 t:Nat
 q:Rat
instance:Inhabited Arc9:=⟨⟨0,0,0,0⟩⟩
structure Au where
 sym:Nat
 st:Nat
 ini:List Rat
 fin:List Rat
 arcs:List Arc9
instance:Inhabited Au:=⟨⟨0,0,[],[],[]⟩⟩
structure Au.Ok (a:Au):Prop where
 sym0:1≤a.sym
 ini:a.ini.length=a.st
 fin:a.fin.length=a.st
 arc:∀ x,x ∈ a.arcs→x.f<a.st∧x.t<a.st∧1≤x.l∧x.l≤a.sym
def entA (l:List Arc9)(s i j:Nat):Rat:=lsum (fun x=>if x.f=i∧x.l=s+1∧x.t=j then x.q else 0) l
def sizeL (l:List Au):Nat:=(l.map (·.st)).sum
def entL:List Au→Nat→Nat→Nat→Rat
 | [],_,_,_=>0
 | a::r,s,i,j=>if i<a.st then (if j<a.st then entA a.arcs s i j else 0) else (if j<a.st then 0 else entL r s (i-a.st) (j-a.st))
def mtx (n:Nat)(f:Nat→Nat→Rat):List (List Rat):=(List.range n).map fun i=>(List.range n).map fun j=>f i j
def finL:List Au→List Rat
 | []=>[]
 | a::r=>a.fin++r.flatMap fun b=>b.fin.map fun x=>-x
def machL (l:List Au):Mach:=⟨sizeL l,l.flatMap (·.ini),finL l,(List.range (l.getD 0 default).sym).map fun s=>mtx (sizeL l) (entL l s)⟩
section
variable {a b:Au}{l:List Au}{s i j n:Nat}
theorem mtx_get {f:Nat→Nat→Rat}(hi:i<n)(hj:j<n):((mtx n f).getD i []).getD j 0=f i j:=by
 unfold mtx
 rw [map_getD_range _ _ hi,map_getD_range _ _ hj]
theorem machL_k:(machL l).k=(l.getD 0 default).sym:=by simp [Mach.k,machL]
theorem machL_ent (hs:s<(l.getD 0 default).sym)(hi:i<sizeL l)(hj:j<sizeL l):entM (machL l) s i j=entL l s i j:=by
 unfold entM machL
 rw [map_getD_range _ _ hs,mtx_get hi hj]
theorem size_one:sizeL [a]=a.st:=by simp [sizeL]
theorem mach_ok1 (ha:a.Ok):(machL [a]).Ok:=⟨by simp [machL,sizeL,ha.ini],by simp [machL,finL,sizeL,ha.fin]⟩
theorem sumN_app (f:Nat→Rat)(n:Nat):∀ m,sumN f (n+m)=sumN f n+sumN (fun i=>f (n+i)) m
 | 0=>by rw [Nat.add_zero,sumN,Rat.add_zero]
 | m+1=>by rw [← Nat.add_assoc,sumN,sumN_app f n m,sumN,Rat.add_assoc]
def serA (a:Au)(w:List Int):Rat:=wtM (machL [a]) w
end
section
variable {n:Nat}
theorem last_bad {α:Type}(p:α→Prop):∀ l:List α,(∀ x,x ∈ l→p x) ∨ ∃ a x z,l=a++x::z∧¬ p x∧∀ y,y ∈ z→p y
 | []=>.inl fun _ h=>by cases h
 | x :: r => by
  rcases last_bad p r with h|⟨a,y,z,e,h1,h2⟩
  ·by_cases hx:p x
   ·exact .inl fun y hy=>(List.mem_cons.1 hy).elim (fun e=>e ▸ hx) (h y)
   ·exact .inr ⟨[],x,r,rfl,hx,h⟩
  ·exact .inr ⟨x::a,y,z,by rw [e];rfl,h1,h2⟩
def subR (n:Nat)(f:SRow→Rat)(r x:SRow):SRow:=⟨(List.range n).map fun i=>x.v.getD i 0-f x*r.v.getD i 0,x.c,x.p⟩
theorem subR_get {f:SRow→Rat}{r x:SRow}{i:Nat}(hi:i<n):(subR n f r x).v.getD i 0=x.v.getD i 0-f x*r.v.getD i 0:=map_getD_range _ _ hi
theorem span_len:∀ (C:List (List Rat)) (rs:List SRow),Ech n rs→(∀ r,r ∈ rs→SpanV n C (vf r.v))→rs.length≤C.length
 | [], rs, e, h => by
  cases rs with
  | nil=>exact Nat.le_refl _
  | cons r rs =>
   obtain ⟨p1,p2⟩:=e.piv r (List.mem_cons_self ..)
   cases h r (List.mem_cons_self ..) with
   | zero h=>exact absurd (h _ p1) p2
   | add _ hb=>cases hb
 | c :: C, rs, e, h => by
  rcases last_bad (fun r:SRow=>SpanV n C (vf r.v)) rs with hall|⟨A,r,Z,rfl,hr,hZ⟩
  ·exact Nat.le_succ_of_le (span_len C rs e hall)
  ·obtain ⟨a,w,hw,ha⟩:=(h r (by simp)).split
   have ha0:a≠0:=fun e0=>hr (hw.congr fun i hi=>by rw [ha i hi,e0,Rat.zero_mul,Rat.zero_add])
   have hx:∀ x:SRow,∃ f:Rat,x ∈ A→SpanV n C fun i=>x.v.getD i 0-f*r.v.getD i 0:=fun x=>by
    by_cases hxA:x ∈ A
    ·obtain ⟨b,u,hu,hb⟩:=(h x (by simp [hxA])).split
     refine ⟨b / a,fun _=>(hu.plus (hw.smul (-(b / a)))).congr fun i hi=>?_⟩
     show x.v.getD i 0-b / a*r.v.getD i 0=u i + -(b / a)*w i
     rw [show x.v.getD i 0=b*c.getD i 0+u i from hb i hi,show r.v.getD i 0=a*c.getD i 0+w i from ha i hi,Rat.mul_add,← Rat.mul_assoc,Rat.div_mul_cancel ha0,Rat.sub_eq_add_neg,Rat.neg_add,Rat.neg_mul,Rat.add_comm (b*_),Rat.add_assoc,← Rat.add_assoc (b*_),Rat.add_neg_cancel,Rat.zero_add]
    ·exact ⟨0,fun k=>absurd k hxA⟩
   obtain ⟨f,hf⟩:=Classical.axiomOfChoice hx
   have hz:=List.pairwise_append.1 e.zero
   have hz2:=List.pairwise_cons.1 hz.2.1
   have hlen:=span_len C (A.map (subR n f r)++Z) ⟨fun y hy=>?_,?_⟩ fun y hy=>?_
   ·rw [la9,lm9] at hlen
    rw [la9,List.length_cons,List.length_cons];omega
   ·rcases List.mem_append.1 hy with hy|hy
    ·obtain ⟨x,hxA,rfl⟩:=List.mem_map.1 hy
     obtain ⟨p1,p2⟩:=e.piv x (by simp [hxA])
     refine ⟨p1,?_⟩
     rw [show (subR n f r x).p=x.p from rfl,subR_get p1,hz.2.2 x hxA r (List.mem_cons_self ..),Rat.mul_zero,Rat.sub_eq_add_neg,Rat.neg_zero,Rat.add_zero]
     exact p2
    ·exact e.piv y (by simp [hy])
   ·refine List.pairwise_append.2 ⟨List.pairwise_map.2 (hz.1.imp_of_mem fun {x y} hxA hyA k=>?_),hz2.2,fun x hxm y hy=>?_⟩
    ·have p1:=(e.piv x (by simp [hxA])).1
     rw [show (subR n f r x).p=x.p from rfl,subR_get p1,k,hz.2.2 x hxA r (List.mem_cons_self ..),Rat.mul_zero,Rat.sub_self]
    ·obtain ⟨x,hxA,rfl⟩:=List.mem_map.1 hxm
     exact hz.2.2 x hxA y (List.mem_cons_of_mem _ hy)
   ·rcases List.mem_append.1 hy with hy|hy
    ·obtain ⟨x,hxA,rfl⟩:=List.mem_map.1 hy
     exact (hf x hxA).congr fun i hi=>subR_get hi
    ·exact hZ y hy
end
def Fac {α β:Type}(H:α→β→Rat)(r:Nat):Prop:=∃ (A:α→Nat→Rat) (B:Nat→β→Rat),∀ a b,H a b=sumN (fun k=>A a k*B k b) r
section
variable {α β:Type}{H G:α→β→Rat}{r s:Nat}
theorem Fac.turn (h:Fac H r):Fac (fun b a=>H a b) r :=
 have ⟨A,B,e⟩:=h
 ⟨fun b k=>B k b,fun k a=>A a k,fun b a=>by show H a b=_;rw [e];exact sumN_congr fun k _=>Rat.mul_comm ..⟩
theorem Fac.plus (h:Fac H r)(k:Fac G s):Fac (fun a b=>H a b+G a b) (r+s):=by
 obtain ⟨A,B,e⟩:=h
 obtain ⟨A2,B2,e2⟩:=k
 refine ⟨fun a k=>if k<r then A a k else A2 a (k-r),fun k b=>if k<r then B k b else B2 (k-r) b,fun a b=>?_⟩
 show H a b+G a b=_
 rw [sumN_app,e,e2]
 congr 1
 ·exact sumN_congr fun k hk=>by simp only [if_pos hk]
 ·exact sumN_congr fun k _=>by simp only [if_neg (show ¬ r+k<r by omega),Nat.add_sub_cancel_left]
theorem Fac.smul (h:Fac H r)(c:Rat):Fac (fun a b=>c*H a b) r :=
 have ⟨A,B,e⟩:=h
 ⟨fun a k=>c*A a k,B,fun a b=>by show c*H a b=_;rw [e,← sumN_mulL];exact sumN_congr fun k _=>(Rat.mul_assoc ..).symm⟩
theorem Fac.map {α2 β2:Type}(h:Fac H r)(f:α2→α)(g:β2→β):Fac (fun a b=>H (f a) (g b)) r :=
 have ⟨A,B,e⟩:=h
 ⟨fun a k=>A (f a) k,fun k b=>B k (g b),fun a b=>e _ _⟩
theorem Fac.zero:Fac H 0 ↔ ∀ a b,H a b=0 :=
 ⟨fun ⟨_,_,e⟩ a b=>by rw [e];rfl,fun h=>⟨fun _ _=>0,fun _ _=>0,fun a b=>by rw [h];rfl⟩⟩
structure RankT (H:α→β→Rat) (r:Nat):Prop where
 fac:Fac H r
 least:∀ s,Fac H s→r≤s
theorem RankT.unique (h:RankT H r)(k:RankT H s):r=s:=Nat.le_antisymm (h.least _ k.fac) (k.least _ h.fac)
theorem RankT.turn (h:RankT H r):RankT (fun b a=>H a b) r:=⟨h.fac.turn,fun s k=>h.least s k.turn⟩
theorem rank_of_rows {n:Nat}{rs:List SRow}(e:Ech n rs)(fac:Fac H rs.length)(V:List α)(cols:Nat→β)(hv:∀ r,r ∈ rs→SpanV n (V.map fun a=>(List.range n).map fun j=>H a (cols j)) (vf r.v)):RankT H rs.length :=
 ⟨fac,fun s ⟨A,B,hs⟩=>by
  have h:=span_len (n:=n) ((List.range s).map fun k=>(List.range n).map fun j=>B k (cols j)) rs e fun r hr=>(hv r hr).trans fun b hb=>by
   obtain ⟨a,_,rfl⟩:=List.mem_map.1 hb
   have key:∀ t,t≤s→SpanV n ((List.range s).map fun k=>(List.range n).map fun j=>B k (cols j)) fun j=>sumN (fun k=>A a k*B k (cols j)) t:=by
    intro t
    induction t with
    | zero=>intro _;exact .zero fun _ _=>rfl
    | succ t ih =>
     intro ht
     refine .add (A a t) (List.mem_map.2 ⟨t,List.mem_range.2 (by omega),rfl⟩) (ih (by omega)) fun j hj=>?_
     rw [sumN,map_getD_range _ _ hj]
   exact (key s (Nat.le_refl s)).congr fun j hj=>by
    show ((List.range n).map fun j=>H a (cols j)).getD j 0=_
    rw [map_getD_range _ _ hj,hs]
  rw [lm9,List.length_range] at h
  exact h⟩
end
abbrev Wd (k:Nat):={ w:List Int // InW k w }
def turnM (m:Mach):Mach:=⟨m.n,m.fin,m.ini,m.mats.map fun M=>mtx m.n fun i j=>(M.getD j []).getD i 0⟩
def hankM (m:Mach)(u l:List Int):Rat:=dotM m.n (vf (vecM m u)) (vf (vecM (turnM m) l))
section
variable {m:Mach}{u l:List Int}{n:Nat}{B:List (List Rat)}
theorem turn_k:(turnM m).k=m.k:=by simp [Mach.k,turnM]
theorem turn_ok (h:m.Ok):(turnM m).Ok:=⟨h.fin,h.ini⟩
theorem turn_ent {s i j:Nat}(hs:s<m.k)(hi:i<m.n)(hj:j<m.n):entM (turnM m) s i j=entM m s j i:=by
 unfold entM turnM
 have e:(m.mats.map fun M=>mtx m.n fun i j=>(M.getD j []).getD i 0).getD s []=mtx m.n fun i j=>((m.mats.getD s []).getD j []).getD i 0:=by
  rw [gd9,List.getElem?_map,ge9 hs,gd9,ge9 hs];rfl
 rw [e,mtx_get hi hj]
theorem dot_step {v x:List Rat}{s:Nat}(hs:s<m.k):dotM m.n (vf (stepM m v s)) (vf x)=dotM m.n (vf v) (vf (stepM (turnM m) x s)):=by
 unfold dotM
 rw [show sumN (fun i=>vf (stepM m v s) i*vf x i) m.n=sumN (fun j=>sumN (fun i=>v.getD i 0*entM m s i j*x.getD j 0) m.n) m.n from sumN_congr fun j hj=>by
  show (stepM m v s).getD j 0*_=_
  rw [stepM_vf hj,← sumN_mulR]]
 rw [sumN_swap]
 refine sumN_congr fun i hi=>?_
 show _=v.getD i 0*(stepM (turnM m) x s).getD i 0
 rw [stepM_vf (m:=turnM m) hi,← sumN_mulL]
 refine sumN_congr fun j hj=>?_
 rw [turn_ent hs hj hi,Rat.mul_assoc,Rat.mul_comm (entM m s i j)]
theorem hank_wt:∀ (l u:List Int),InW m.k l→hankM m u l=wtM m (u++l.reverse):=by
 intro l
 induction hn:l.length generalizing l with
 | zero =>
  intro u _
  rw [List.eq_nil_of_length_eq_zero hn,List.reverse_nil,List.append_nil];rfl
 | succ n ih =>
  intro u hl
  have hne:l≠[]:=fun e=>by subst e;cases hn
  obtain ⟨y,x,rfl⟩:∃ y x,l=y++[x]:=⟨l.dropLast,l.getLast hne,(List.dropLast_concat_getLast hne).symm⟩
  have hx:=hl x (by simp)
  rw [List.reverse_append,List.reverse_singleton,List.singleton_append,show u++x::y.reverse=(u++[x])++y.reverse by simp,← ih y (by rw [la9,ls9] at hn;omega) (u++[x]) fun z hz=>hl z (List.mem_append.2 (.inl hz))]
  unfold hankM
  rw [vecM_snoc,vecM_snoc,← dot_step (by omega)]
theorem SpanV.coef {v:Nat→Rat}(h:SpanV n B v):∃ c:Nat→Rat,∀ i,i<n→v i=sumN (fun k=>c k*(B.getD k []).getD i 0) B.length:=by
 induction h with
 | zero h=>exact ⟨fun _=>0,fun i hi=>by rw [h i hi];exact (sumN_zero fun k _=>Rat.zero_mul _).symm⟩
 | @add u u' b a hb _ h ih =>
  obtain ⟨c,hc⟩:=ih
  obtain ⟨p,hp,e⟩:=List.mem_iff_getElem.1 hb
  refine ⟨fun k=>c k+if p=k then a else 0,fun i hi=>?_⟩
  rw [h i hi,hc i hi,show sumN (fun k=>(c k+if p=k then a else 0)*(B.getD k []).getD i 0) B.length=sumN (fun k=>c k*(B.getD k []).getD i 0) B.length+sumN (fun k=>if p=k then a*(B.getD k []).getD i 0 else 0) B.length by
   rw [← sumN_add]
   refine sumN_congr fun k _=>?_
   rw [Rat.add_mul]
   congr 1
   split
   ·rfl
   ·rw [Rat.zero_mul]]
  rw [sumN_pick (v:=fun k=>a*(B.getD k []).getD i 0) hp]
  rw [show B.getD p []=b by rw [gd9,ge9 hp,Option.getD_some,e]]
def viewM (m:Mach)(L:List (List Int))(u:List Int):List Rat:=(List.range L.length).map fun j=>hankM m u (L.getD j [])
theorem view_lin (m:Mach)(L:List (List Int)):LinM m.n L.length fun v j=>dotM m.n v (vf (vecM (turnM m) (L.getD j []))) :=
 ⟨fun u v h j _=>(dotM_lin m.n _).loc u v h 0 (by decide),fun u v c j _=>(dotM_lin m.n (vf (vecM (turnM m) (L.getD j [])))).add u v c 0 (by decide),fun j _=>(dotM_lin m.n (vf (vecM (turnM m) (L.getD j [])))).zero 0 (by decide)⟩
theorem rank_found {K L V V2:List (List Int)}{rs r1 r2:List SRow}(ok:m.Ok)(j:Join m V K [] r1)(j2:Join (turnM m) V2 L [] r2)(e:Ech L.length rs)(h1:∀ r,r ∈ rs→SpanV L.length (K.map (viewM m L)) (vf r.v))(h2:∀ u,u ∈ K→SpanV L.length (rowsS rs) (vf (viewM m L u))) :
  RankT (fun (u l:Wd m.k)=>hankM m u.1 l.1) rs.length:=by
 classical
 have inK:∀ u,u ∈ K→InW m.k u:=fun u hu=>j.bfs.inW u (.inl (j.bfs.sub u hu))
 have inL:∀ u,u ∈ L→InW m.k u:=fun u hu=>by have:=j2.bfs.inW u (.inl (j2.bfs.sub u hu));rwa [turn_k] at this
 have hv:∀ u,InW m.k u→SpanV L.length (rowsS rs) fun i=>hankM m u (L.getD i []):=fun u hu=>by
  have hs:=(j.bfs.reach u hu fun q hq=>by cases hq).mono (C:=vecs m K) fun b hb=>by
   obtain ⟨z,hz,rfl⟩:=List.mem_map.1 hb
   exact List.mem_map.2 ⟨z,(upTo_mem.1 hz).1,rfl⟩
  refine hs.map (view_lin m L) fun b hb=>?_
  obtain ⟨z,hz,rfl⟩:=List.mem_map.1 hb
  exact (h2 z hz).congr fun i hi=>by
   show _=(viewM m L z).getD i 0
   unfold viewM
   rw [map_getD_range _ _ hi];rfl
 have hl:∀ l,InW m.k l→SpanV m.n (vecs (turnM m) L) (vf (vecM (turnM m) l)):=fun l hl =>
  (j2.bfs.reach l (by rw [turn_k];exact hl) fun q hq=>by cases hq).mono fun b hb=>by
   obtain ⟨z,hz,rfl⟩:=List.mem_map.1 hb
   exact List.mem_map.2 ⟨z,(upTo_mem.1 hz).1,rfl⟩
 obtain ⟨E,hE⟩:=Classical.axiomOfChoice (r:=fun (u:Wd m.k) (c:Nat→Rat)=>∀ i,i<L.length→hankM m u.1 (L.getD i [])=sumN (fun k=>c k*((rowsS rs).getD k []).getD i 0) (rowsS rs).length) fun u=>(hv u.1 u.2).coef
 obtain ⟨D,hD⟩:=Classical.axiomOfChoice (r:=fun (l:Wd m.k) (c:Nat→Rat)=>∀ i,i<m.n→vf (vecM (turnM m) l.1) i=sumN (fun k=>c k*((vecs (turnM m) L).getD k []).getD i 0) (vecs (turnM m) L).length) fun l=>(hl l.1 l.2).coef
 have hrl:(rowsS rs).length=rs.length:=by simp [rowsS]
 have hll:(vecs (turnM m) L).length=L.length:=by simp [vecs]
 have hfac:Fac (fun (u l:Wd m.k)=>hankM m u.1 l.1) rs.length:=by
  refine ⟨E,fun k l=>sumN (fun i=>D l i*((rowsS rs).getD k []).getD i 0) L.length,fun u l=>?_⟩
  show hankM m u.1 l.1=_
  have e1:hankM m u.1 l.1=sumN (fun i=>D l i*hankM m u.1 (L.getD i [])) L.length:=by
   unfold hankM dotM
   rw [show sumN (fun i=>vf (vecM m u.1) i*vf (vecM (turnM m) l.1) i) m.n=sumN (fun i=>sumN (fun k=>D l k*(vf (vecM m u.1) i*vf (vecM (turnM m) (L.getD k [])) i)) L.length) m.n from sumN_congr fun i hi=>by
    rw [hD l i hi,hll,← sumN_mulL]
    refine sumN_congr fun k hk=>?_
    rw [show (vecs (turnM m) L).getD k []=vecM (turnM m) (L.getD k []) by
     unfold vecs
     rw [gd9,List.getElem?_map,ge9 hk,gd9,ge9 hk];rfl]
    rw [← Rat.mul_assoc,← Rat.mul_assoc,Rat.mul_comm (vf (vecM m u.1) i)]]
   rw [sumN_swap]
   exact sumN_congr fun k _=>by rw [sumN_mulL]
  rw [e1,show sumN (fun i=>D l i*hankM m u.1 (L.getD i [])) L.length=sumN (fun i=>sumN (fun k=>E u k*(D l i*((rowsS rs).getD k []).getD i 0)) rs.length) L.length from sumN_congr fun i hi=>by
   rw [hE u i hi,hrl,← sumN_mulL]
   exact sumN_congr fun k _=>by rw [← Rat.mul_assoc,← Rat.mul_assoc,Rat.mul_comm (D l i)]]
  rw [sumN_swap]
  exact sumN_congr fun k _=>by rw [sumN_mulL]
 refine rank_of_rows e hfac (K.filterMap fun u=>if h:InW m.k u then some ⟨u,h⟩ else none) (fun i=>if h:InW m.k (L.getD i []) then ⟨L.getD i [],h⟩ else ⟨[],fun x hx=>by cases hx⟩) fun r hr=>(h1 r hr).mono fun b hb=>?_
 obtain ⟨u,hu,rfl⟩:=List.mem_map.1 hb
 refine List.mem_map.2 ⟨⟨u,inK u hu⟩,List.mem_filterMap.2 ⟨u,hu,by rw [dif_pos (inK u hu)]⟩,?_⟩
 refine List.map_congr_left fun i hi=>?_
 have hi:=List.mem_range.1 hi
 rw [dif_pos (inL _ (getD_mem hi []))]
end
end Go.AL

/-
  M, chapter 23: what the search answers, and the rank of a series.
-/
import Derived.Test.YteiohkpjgcioaaaGreatDoorKMod71
import Derived.Test.YteiohkpjgcioaaaGreatDoorKMod37c
set_option linter.unusedVariables false
set_option linter.unusedSimpArgs false
namespace Go.AL
open Go Go.BigFrame
def firstP (w:List Rat):Nat:=w.findIdx fun x=>decide (x≠0)
def addC (t:List Rat)(f:Rat)(c:List Rat):List Rat:=(List.range t.length).map fun i=>t.getD i 0+f*c.getD i 0
def redC:List SRow→List Rat→List Rat→List Rat
 | [],_,t=>t
 | r::rs,w,t=>redC rs (redStep w r) (addC t (qotR w r) r.c)
def takenS (rs:List SRow)(w:List Rat):List Rat:=redC rs w (List.replicate rs.length 0)
def byS (rs:List SRow)(w:List Rat):List Rat:=(takenS rs w).map (fun x=>-x)++[1]
def newR (rs:List SRow)(w:List Rat):SRow:=⟨redV rs w,byS rs w,firstP (redV rs w)⟩
def growsS (rs:List SRow)(w:List Rat):Bool:=decide (firstP (redV rs w)<(redV rs w).length)
def addS (rs:List SRow)(w:List Rat):List SRow:=if growsS rs w=true then rs++[newR rs w] else rs
section
variable {n:Nat}{rs:List SRow}{w:List Rat}
theorem firstP_le (w:List Rat):firstP w≤w.length:=List.findIdx_le_length
theorem firstP_nz (h:firstP w<w.length):w.getD (firstP w) 0≠0:=by
 have:=List.findIdx_getElem (w:=h)
 rw [gd9,ge9 h,Option.getD_some]
 exact dt9 this
theorem firstP_before {i:Nat}(h:i<firstP w):w.getD i 0=0:=by
 have hl:=Nat.lt_of_lt_of_le h (firstP_le w)
 have:=List.not_of_lt_findIdx h
 rw [gd9,ge9 hl,Option.getD_some]
 simpa using this
theorem firstP_all:firstP w=w.length ↔ allZ w:=by
 constructor
 ·intro h i hi
  exact firstP_before (by omega)
 ·intro h
  have:=firstP_le w
  rcases Nat.lt_or_ge (firstP w) w.length with h1|h1
  ·exact absurd (h _ h1) (firstP_nz h1)
  ·omega
theorem grows_iff (e:Ech n rs)(hw:w.length=n):growsS rs w=false ↔ SpanV n (rowsS rs) (vf w):=by
 rw [← red_iff e hw,← firstP_all]
 have:=firstP_le (redV rs w)
 unfold growsS
 rw [decide_eq_false_iff_not]
 omega
theorem addC_len (t:List Rat)(f:Rat)(c:List Rat):(addC t f c).length=t.length:=by simp [addC]
theorem redC_len:∀ (rs:List SRow) (w t:List Rat),(redC rs w t).length=t.length
 | [],_,_=>rfl
 | r::rs,w,t=>by rw [redC,redC_len rs,addC_len]
theorem takenS_len (rs:List SRow)(w:List Rat):(takenS rs w).length=rs.length:=by rw [takenS,redC_len,List.length_replicate]
theorem byS_len (rs:List SRow)(w:List Rat):(byS rs w).length=rs.length+1:=by rw [byS,la9,lm9,takenS_len];rfl
end
structure Join (m:Mach) (V K Q:List (List Int)) (rs:List SRow):Prop where
 bfs:BFS m V K Q
 ech:Ech m.n rs
 len:rs.length=K.length
 rows:∀ r,r ∈ rs→SpanV m.n (vecs m K) (vf r.v)
 kept:∀ u,u ∈ K→SpanV m.n (rowsS rs) (vf (vecM m u))
section
variable {m:Mach}{V K Q:List (List Int)}{rs:List SRow}{w:List Int}
theorem Join.start (m:Mach):Join m [] [] [[]] [] :=
 ⟨BFS.start m,⟨fun _ h=>(by cases h),List.Pairwise.nil⟩,rfl,fun _ h=>(by cases h),fun _ h=>(by cases h)⟩
theorem Join.drop (ok:m.Ok)(j:Join m V K (w::Q) rs)(h:growsS rs (vecM m w)=false):Join m (V++[w]) K Q rs :=
 ⟨j.bfs.drop (((grows_iff j.ech (vecM_len ok w)).1 h).trans fun b hb=>by
  obtain ⟨r,hr,rfl⟩:=mm9 hb
  exact j.rows r hr),j.ech,j.len,j.rows,j.kept⟩
theorem rowsS_app (rs:List SRow)(r:SRow):rowsS (rs++[r])=rowsS rs++[r.v]:=by simp [rowsS]
theorem Join.keep (ok:m.Ok)(j:Join m V K (w::Q) rs)(h:growsS rs (vecM m w)=true):Join m (V++[w]) (K++[w]) (Q++kidsW m.k w) (rs++[newR rs (vecM m w)]):=by
 have hl:=vecM_len ok w
 have hp:firstP (redV rs (vecM m w))<(redV rs (vecM m w)).length:=dt9 h
 have hs:=redV_span rs (vecM m w)
 rw [hl] at hs
 refine ⟨j.bfs.keep,j.ech.grow hl _ (by rw [redV_len,hl] at hp;exact hp) (firstP_nz hp),?_,fun r hr=>?_,fun u hu=>?_⟩
 ·rw [la9,la9,j.len];rfl
 ·rcases mp9 hr with hr|hr
  ·exact (j.rows r hr).mono fun b hb=>by
    obtain ⟨u,hu,rfl⟩:=mm9 hb
    exact List.mem_map.2 ⟨u,List.mem_append.2 (.inl hu),rfl⟩
  ·rw [ms9 hr]
   have h1:SpanV m.n (vecs m (K++[w])) (vf (vecM m w)):=.mem (List.mem_map.2 ⟨w,List.mem_append.2 (.inr (List.mem_singleton.2 rfl)),rfl⟩)
   have h2:=(hs.trans fun b hb=>by
    obtain ⟨r,hr,rfl⟩:=mm9 hb
    exact (j.rows r hr).mono fun b hb=>by
     obtain ⟨u,hu,rfl⟩:=mm9 hb
     exact List.mem_map.2 ⟨u,List.mem_append.2 (.inl hu),rfl⟩:SpanV m.n (vecs m (K++[w])) _)
   refine (h1.plus (h2.smul (-1))).congr fun i _=>?_
   show (redV rs (vecM m w)).getD i 0=(vecM m w).getD i 0 + -1*((vecM m w).getD i 0-(redV rs (vecM m w)).getD i 0)
   rw [Rat.neg_mul,Rat.one_mul,Rat.neg_sub,Rat.sub_eq_add_neg,Rat.add_comm ((vecM m w).getD i 0),Rat.add_assoc,Rat.neg_add_cancel,Rat.add_zero]
 ·rw [rowsS_app]
  rcases mp9 hu with hu|hu
  ·exact (j.kept u hu).mono fun b hb=>List.mem_append.2 (.inl hb)
  ·rw [ms9 hu]
   have h1:=hs.mono (C:=rowsS rs++[redV rs (vecM m w)]) fun b hb=>List.mem_append.2 (.inl hb)
   have h2:SpanV m.n (rowsS rs++[redV rs (vecM m w)]) (vf (redV rs (vecM m w))):=.mem (List.mem_append.2 (.inr (List.mem_singleton.2 rfl)))
   refine (h1.plus h2).congr fun i _=>?_
   show (vecM m w).getD i 0=(vecM m w).getD i 0-(redV rs (vecM m w)).getD i 0+(redV rs (vecM m w)).getD i 0
   rw [Rat.sub_add_cancel]
theorem Join.le (j:Join m V K Q rs):rs.length≤m.n:=j.ech.len
def leftM (m:Mach)(Q:List (List Int))(rs:List SRow):Nat:=Q.length+(m.k+1)*(m.n-rs.length)
theorem left_keep (ok:m.Ok)(j:Join m V K (w::Q) rs)(h:growsS rs (vecM m w)=true):leftM m (Q++kidsW m.k w) (rs++[newR rs (vecM m w)])<leftM m (w::Q) rs:=by
 have h1:=(j.keep ok h).le
 rw [la9,ls9] at h1
 unfold leftM
 rw [show (Q++kidsW m.k w).length=Q.length+(kidsW m.k w).length from la9,show (rs++[newR rs (vecM m w)]).length=rs.length+1 by simp,show (w::Q).length=Q.length+1 from rfl,show (kidsW m.k w).length=m.k by simp [kidsW]]
 obtain ⟨d,hd⟩:∃ d,m.n-rs.length=d+1:=⟨m.n-rs.length-1,by omega⟩
 rw [hd,show m.n-(rs.length+1)=d by omega,Nat.mul_succ]
 omega
theorem left_drop:leftM m Q rs<leftM m (w::Q) rs:=by
 unfold leftM
 rw [List.length_cons];omega
end
structure Arc9 where
 f:Nat
 l:Nat
 t:Nat
 q:Rat
instance:Inhabited Arc9:=⟨⟨0,0,0,0⟩⟩
structure Au where
 sym:Nat
 st:Nat
 ini:List Rat
 fin:List Rat
 arcs:List Arc9
instance:Inhabited Au:=⟨⟨0,0,[],[],[]⟩⟩
structure Au.Ok (a:Au):Prop where
 sym0:1≤a.sym
 ini:a.ini.length=a.st
 fin:a.fin.length=a.st
 arc:∀ x,x ∈ a.arcs→x.f<a.st∧x.t<a.st∧1≤x.l∧x.l≤a.sym
def entA (l:List Arc9)(s i j:Nat):Rat:=lsum (fun x=>if x.f=i∧x.l=s+1∧x.t=j then x.q else 0) l
def sizeL (l:List Au):Nat:=(l.map (·.st)).sum
def entL:List Au→Nat→Nat→Nat→Rat
 | [],_,_,_=>0
 | a::r,s,i,j=>if i<a.st then (if j<a.st then entA a.arcs s i j else 0) else (if j<a.st then 0 else entL r s (i-a.st) (j-a.st))
def mtx (n:Nat)(f:Nat→Nat→Rat):List (List Rat):=(List.range n).map fun i=>(List.range n).map fun j=>f i j
def finL:List Au→List Rat
 | []=>[]
 | a::r=>a.fin++r.flatMap fun b=>b.fin.map fun x=>-x
def machL (l:List Au):Mach:=⟨sizeL l,l.flatMap (·.ini),finL l,(List.range (l.getD 0 default).sym).map fun s=>mtx (sizeL l) (entL l s)⟩
section
variable {a b:Au}{l:List Au}{s i j n:Nat}
theorem mtx_get {f:Nat→Nat→Rat}(hi:i<n)(hj:j<n):((mtx n f).getD i []).getD j 0=f i j:=by
 unfold mtx
 rw [map_getD_range _ _ hi,map_getD_range _ _ hj]
theorem machL_ent (hs:s<(l.getD 0 default).sym)(hi:i<sizeL l)(hj:j<sizeL l):entM (machL l) s i j=entL l s i j:=by
 unfold entM machL
 rw [map_getD_range _ _ hs,mtx_get hi hj]
theorem size_one:sizeL [a]=a.st:=by simp [sizeL]
theorem mach_ok1 (ha:a.Ok):(machL [a]).Ok:=⟨by simp [machL,sizeL,ha.ini],by simp [machL,finL,sizeL,ha.fin]⟩
theorem sumN_app (f:Nat→Rat)(n:Nat):∀ m,sumN f (n+m)=sumN f n+sumN (fun i=>f (n+i)) m
 | 0=>by rw [Nat.add_zero,sumN,Rat.add_zero]
 | m+1=>by rw [← Nat.add_assoc,sumN,sumN_app f n m,sumN,Rat.add_assoc]
def serA (a:Au)(w:List Int):Rat:=wtM (machL [a]) w
end
def Fac {α β:Type}(H:α→β→Rat)(r:Nat):Prop:=∃ (A:α→Nat→Rat) (B:Nat→β→Rat),∀ a b,H a b=sumN (fun k=>A a k*B k b) r
section
variable {α β:Type}{H G:α→β→Rat}{r s:Nat}
theorem Fac.plus (h:Fac H r)(k:Fac G s):Fac (fun a b=>H a b+G a b) (r+s):=by
 obtain ⟨A,B,e⟩:=h
 obtain ⟨A2,B2,e2⟩:=k
 refine ⟨fun a k=>if k<r then A a k else A2 a (k-r),fun k b=>if k<r then B k b else B2 (k-r) b,fun a b=>?_⟩
 show H a b+G a b=_
 rw [sumN_app,e,e2]
 congr 1
 ·exact sumN_congr fun k hk=>by simp only [if_pos hk]
 ·exact sumN_congr fun k _=>by simp only [if_neg (show ¬ r+k<r by omega),Nat.add_sub_cancel_left]
theorem Fac.smul (h:Fac H r)(c:Rat):Fac (fun a b=>c*H a b) r :=
 have ⟨A,B,e⟩:=h
 ⟨fun a k=>c*A a k,B,fun a b=>by show c*H a b=_;rw [e,← sumN_mulL];exact sumN_congr fun k _=>(Rat.mul_assoc ..).symm⟩
theorem Fac.map {α2 β2:Type}(h:Fac H r)(f:α2→α)(g:β2→β):Fac (fun a b=>H (f a) (g b)) r :=
 have ⟨A,B,e⟩:=h
 ⟨fun a k=>A (f a) k,fun k b=>B k (g b),fun a b=>e _ _⟩
theorem Fac.zero:Fac H 0 ↔ ∀ a b,H a b=0 :=
 ⟨fun ⟨_,_,e⟩ a b=>by rw [e];rfl,fun h=>⟨fun _ _=>0,fun _ _=>0,fun a b=>by rw [h];rfl⟩⟩
structure RankT (H:α→β→Rat) (r:Nat):Prop where
 fac:Fac H r
 least:∀ s,Fac H s→r≤s
theorem RankT.unique (h:RankT H r)(k:RankT H s):r=s:=Nat.le_antisymm (h.least _ k.fac) (k.least _ h.fac)
end
def SzR (B:Nat)(rs:List SRow):Prop:=∀ k r,rs[k]? = some r→(∀ i,sz (r.v.getD i 0)+1≤4 ^ k*(B+1))∧∀ i,sz (r.c.getD i 0)+1≤4 ^ k*(B+1)
section
variable {B:Nat}{rs:List SRow}{w t:List Rat}
theorem range_sz {f:Nat→Rat}{C:Nat}(n:Nat)(hC:1≤C)(h:∀ i,sz (f i)≤C)(i:Nat):sz (((List.range n).map f).getD i 0)≤C:=by
 rcases Nat.lt_or_ge i n with hi|hi
 ·rw [map_getD_range _ _ hi];exact h i
 ·rw [gd9,List.getElem?_eq_none (by simp;exact hi),Option.getD_none,sz_zero];exact hC
theorem qot_sz {r:SRow}{C:Nat}(hw:∀ i,sz (w.getD i 0)+1≤C)(hr:∀ i,sz (r.v.getD i 0)+1≤C):sz (qotR w r)+2≤2*C:=by
 have h:=sz_div (w.getD r.p 0) (r.v.getD r.p 0)
 have h1:=hw r.p
 have h2:=hr r.p
 unfold qotR
 omega
theorem step_sz {r:SRow}{C:Nat}(hw:∀ i,sz (w.getD i 0)+1≤C)(hr:∀ i,sz (r.v.getD i 0)+1≤C)(i:Nat):sz ((redStep w r).getD i 0)+1≤4*C:=by
 have hC:1≤C:=Nat.le_trans (Nat.le_add_left 1 _) (hw 0)
 have key:sz ((redStep w r).getD i 0)≤4*C-1:=range_sz w.length (f:=fun i=>w.getD i 0-qotR w r*r.v.getD i 0) (by omega) (fun i=>by
  have h1:=sz_sub (w.getD i 0) (qotR w r*r.v.getD i 0)
  have h2:=sz_mul (qotR w r) (r.v.getD i 0)
  have h3:=qot_sz hw hr
  have h4:=hw i
  have h5:=hr i
  omega) i
 omega
theorem addC_sz {r:SRow}{C:Nat}(hw:∀ i,sz (w.getD i 0)+1≤C)(ht:∀ i,sz (t.getD i 0)+1≤C)(hr:∀ i,sz (r.v.getD i 0)+1≤C)(hc:∀ i,sz (r.c.getD i 0)+1≤C)(i:Nat):sz ((addC t (qotR w r) r.c).getD i 0)+1≤4*C:=by
 have hC:1≤C:=Nat.le_trans (Nat.le_add_left 1 _) (hw 0)
 have key:sz ((addC t (qotR w r) r.c).getD i 0)≤4*C-1:=range_sz t.length (f:=fun i=>t.getD i 0+qotR w r*r.c.getD i 0) (by omega) (fun i=>by
  have h1:=sz_add (t.getD i 0) (qotR w r*r.c.getD i 0)
  have h2:=sz_mul (qotR w r) (r.c.getD i 0)
  have h3:=qot_sz hw hr
  have h4:=ht i
  have h5:=hc i
  omega) i
 omega
theorem red_szJ:∀ (rs:List SRow) (j:Nat) (w:List Rat),(∀ k r,rs[k]? = some r→∀ i,sz (r.v.getD i 0)+1≤4 ^ (j+k)*(B+1))→(∀ i,sz (w.getD i 0)+1≤4 ^ j*(B+1))→∀ i,sz ((redV rs w).getD i 0)+1≤4 ^ (j+rs.length)*(B+1)
 | [],_,_,_,hw,i=>hw i
 | r :: rs, j, w, h, hw, i => by
  have h0:=h 0 r rfl
  rw [Nat.add_zero] at h0
  have:=red_szJ rs (j+1) (redStep w r) (fun k q hq=>by
   have:=h (k+1) q hq
   rwa [show j+(k+1)=j+1+k by omega] at this) (fun i=>by
   have:=step_sz hw h0 i
   rwa [Nat.pow_succ,Nat.mul_comm (4 ^ j),Nat.mul_assoc]) i
  rwa [redV,List.length_cons,show j+(rs.length+1)=j+1+rs.length by omega]
theorem redC_szJ:∀ (rs:List SRow) (j:Nat) (w t:List Rat),(∀ k r,rs[k]? = some r→(∀ i,sz (r.v.getD i 0)+1≤4 ^ (j+k)*(B+1))∧∀ i,sz (r.c.getD i 0)+1≤4 ^ (j+k)*(B+1))→(∀ i,sz (w.getD i 0)+1≤4 ^ j*(B+1))→(∀ i,sz (t.getD i 0)+1≤4 ^ j*(B+1)) →
  ∀ i,sz ((redC rs w t).getD i 0)+1≤4 ^ (j+rs.length)*(B+1)
 | [],_,_,_,_,_,ht,i=>ht i
 | r :: rs, j, w, t, h, hw, ht, i => by
  have h0:=h 0 r rfl
  rw [Nat.add_zero] at h0
  have:=redC_szJ rs (j+1) (redStep w r) (addC t (qotR w r) r.c) (fun k q hq=>by
   have:=h (k+1) q hq
   rwa [show j+(k+1)=j+1+k by omega] at this) (fun i=>by
   have:=step_sz hw h0.1 i
   rwa [Nat.pow_succ,Nat.mul_comm (4 ^ j),Nat.mul_assoc]) (fun i=>by
   have:=addC_sz hw ht h0.1 h0.2 i
   rwa [Nat.pow_succ,Nat.mul_comm (4 ^ j),Nat.mul_assoc]) i
  rwa [redC,List.length_cons,show j+(rs.length+1)=j+1+rs.length by omega]
theorem SzR.nil:SzR B []:=fun k r h=>by cases h
theorem SzR.take (h:SzR B rs)(j:Nat):SzR B (rs.take j):=fun k r hk=>by
 rw [List.getElem?_take] at hk
 split at hk
 ·exact h k r hk
 ·cases hk
theorem SzR.red (h:SzR B rs)(hw:∀ i,sz (w.getD i 0)≤B)(i:Nat):sz ((redV rs w).getD i 0)+1≤4 ^ rs.length*(B+1):=by
 have:=red_szJ rs 0 w (fun k r hk=>by rw [Nat.zero_add];exact (h k r hk).1) (fun i=>by rw [Nat.pow_zero,Nat.one_mul];have:=hw i;omega) i
 rwa [Nat.zero_add] at this
theorem rep_zero (n i:Nat):(List.replicate n (0:Rat)).getD i 0=0:=by
 rw [gd9,List.getElem?_replicate]
 split <;> rfl
theorem SzR.redC (h:SzR B rs)(h1:1≤B)(hw:∀ i,sz (w.getD i 0)≤B)(n i:Nat):sz ((Go.AL.redC rs w (List.replicate n 0)).getD i 0)+1≤4 ^ rs.length*(B+1):=by
 have:=redC_szJ rs 0 w (List.replicate n 0) (fun k r hk=>by rw [Nat.zero_add];exact h k r hk) (fun i=>by rw [Nat.pow_zero,Nat.one_mul];have:=hw i;omega) (fun i=>by rw [Nat.pow_zero,Nat.one_mul,rep_zero,sz_zero];omega) i
 rwa [Nat.zero_add] at this
theorem pow4_pos (k:Nat):1≤4 ^ k:=Nat.one_le_pow _ _ (by decide)
theorem SzR.byS (h:SzR B rs)(h1:1≤B)(hw:∀ i,sz (w.getD i 0)≤B)(i:Nat):sz ((Go.AL.byS rs w).getD i 0)+1≤4 ^ rs.length*(B+1):=by
 have hp:B+1≤4 ^ rs.length*(B+1):=Nat.le_mul_of_pos_left _ (pow4_pos _)
 have hl:((takenS rs w).map fun x=>-x).length=(takenS rs w).length:=lm9 ..
 unfold Go.AL.byS
 rw [gd9]
 rcases Nat.lt_or_ge i (takenS rs w).length with hi|hi
 ·rw [List.getElem?_append_left (by rw [hl];exact hi),List.getElem?_map,ge9 hi,Option.map_some,Option.getD_some,sz_neg]
  have:=h.redC h1 hw rs.length i
  rw [gd9,show Go.AL.redC rs w (List.replicate rs.length 0)=takenS rs w from rfl,ge9 hi,Option.getD_some] at this
  exact this
 ·rw [List.getElem?_append_right (by rw [hl];exact hi),hl]
  rcases Nat.eq_zero_or_pos (i-(takenS rs w).length) with h0|h0
  ·rw [h0]
   show sz 1+1≤_
   rw [sz_one];omega
  ·rw [List.getElem?_eq_none (by rw [ls9];exact h0),Option.getD_none,sz_zero];omega
theorem SzR.grow (h:SzR B rs)(h1:1≤B)(hw:∀ i,sz (w.getD i 0)≤B):SzR B (rs++[newR rs w]):=fun k r hk=>by
 rcases Nat.lt_or_ge k rs.length with hi|hi
 ·rw [List.getElem?_append_left hi] at hk
  exact h k r hk
 ·rw [List.getElem?_append_right hi] at hk
  rcases Nat.eq_zero_or_pos (k-rs.length) with h0|h0
  ·rw [h0] at hk
   cases hk
   have e:k=rs.length:=by omega
   subst e
   exact ⟨fun i=>h.red hw i,fun i=>h.byS h1 hw i⟩
  ·rw [List.getElem?_eq_none (by rw [ls9];exact h0)] at hk;cases hk
theorem SzR.add (h:SzR B rs)(h1:1≤B)(hw:∀ i,sz (w.getD i 0)≤B):SzR B (addS rs w):=by
 unfold addS
 split
 ·exact h.grow h1 hw
 ·exact h
end
def Ans (m:Mach):Option (List Int)→Prop
 | none=>∀ w,InW m.k w→wtM m w=0
 | some w=>FirstNZ m w
section
variable {m m2:Mach}{V K Q:List (List Int)}{rs:List SRow}{w:List Int}{o p:Option (List Int)}
theorem Ans.unique (h:Ans m o)(k:Ans m p):o=p:=by
 cases o with
 | none =>
  cases p with
  | none=>rfl
  | some w=>exact absurd (h w k.inW) k.nz
 | some v =>
  cases p with
  | none=>exact absurd (k v h.inW) h.nz
  | some w=>rw [FirstNZ.unique h k]
theorem Ans.congr (hk:m2.k=m.k)(e:∀ w,InW m.k w→(wtM m w=0 ↔ wtM m2 w=0))(h:Ans m o):Ans m2 o:=by
 cases o with
 | none=>exact fun w hw=>(e w (hk ▸ hw)).1 (h w (hk ▸ hw))
 | some v=>exact ⟨hk ▸ h.inW,fun z=>h.nz ((e v h.inW).2 z),fun u hu hl=>(e u (hk ▸ hu)).1 (h.before u (hk ▸ hu) hl)⟩
structure LenK (K Q:List (List Int)):Prop where
 kept:∀ (i:Nat) (u:List Int),K[i]? = some u→u.length≤i
 open_:∀ q:List Int,q ∈ Q→q.length≤K.length
theorem LenK.start:LenK [] [[]]:=⟨fun i u h=>(by cases h),fun q h=>(by rw [ms9 h];exact Nat.le_refl _)⟩
theorem LenK.drop (h:LenK K (w::Q)):LenK K Q:=⟨h.kept,fun q hq=>h.open_ q (List.mem_cons_of_mem _ hq)⟩
theorem LenK.keep {k:Nat}(h:LenK K (w::Q)):LenK (K++[w]) (Q++kidsW k w):=by
 have hw:=h.open_ w mc9
 refine ⟨fun i u hi=>?_,fun q hq=>?_⟩
 ·rcases Nat.lt_or_ge i K.length with hl|hl
  ·rw [List.getElem?_append_left hl] at hi
   exact h.kept i u hi
  ·rw [List.getElem?_append_right hl] at hi
   rcases Nat.eq_zero_or_pos (i-K.length) with h0|h0
   ·rw [h0] at hi;cases hi;omega
   ·rw [List.getElem?_eq_none (by rw [ls9];exact h0)] at hi;cases hi
 ·rw [la9,ls9]
  rcases mp9 hq with hq|hq
  ·have:=h.open_ q (List.mem_cons_of_mem _ hq);omega
  ·obtain ⟨s,_,rfl⟩:=kidsW_mem.1 hq
   rw [la9,ls9];omega
theorem Join.new (ok:m.Ok)(j:Join m V K (w::Q) rs)(hz:ZeroK m K)(hn:wtM m w≠0):growsS rs (vecM m w)=true:=by
 cases hg:growsS rs (vecM m w) with
 | true=>rfl
 | false =>
  refine absurd ?_ hn
  have hs:=((grows_iff j.ech (vecM_len ok w)).1 hg).trans fun b hb=>by
   obtain ⟨r,hr,rfl⟩:=mm9 hb
   exact j.rows r hr
  refine hs.kill (L:=fun u _=>dotM m.n u (vf m.fin)) (dotM_lin m.n (vf m.fin)) fun b hb=>?_
  obtain ⟨u,hu,rfl⟩:=mm9 hb
  exact hz u hu
theorem ZeroK.add (hz:ZeroK m K)(h:wtM m w=0):ZeroK m (K++[w]):=fun u hu=>(mp9 hu).elim (hz u) fun hu=>by rw [ms9 hu];exact h
open Classical in
noncomputable def firstNZ (m:Mach):Option (List Int):=if h:∃ o,Ans m o then h.choose else none
theorem firstNZ_eq (h:Ans m o):firstNZ m=o:=by
 have h':∃ o,Ans m o:=⟨o,h⟩
 unfold firstNZ
 rw [dif_pos h']
 exact Ans.unique h'.choose_spec h
end
theorem least_ex {p:Nat→Prop}:∀ n,p n→∃ r,p r∧∀ s,p s→r≤s:=by
 intro n
 induction n using Nat.strongRecOn with
 | ind n ih =>
  intro h
  by_cases hx:∃ k,k<n∧p k
  ·obtain ⟨k,hk,hp⟩:=hx
   exact ih k hk hp
  ·exact ⟨n,h,fun s hs=>Decidable.byContradiction fun hlt=>hx ⟨s,by omega,hs⟩⟩
end Go.AL

/-
  M, chapter 24: the machine of the views: its vectors are the rows of the table of the series.
-/
import Derived.Test.YtnjoncgnjdkaoaaGreatDoorKMod90
set_option linter.unusedVariables false
set_option linter.unusedSimpArgs false
namespace Go.AL
open Go Go.BigFrame
section
variable {a b:Au}{n s i j k:Nat}{v w out:List Rat}{l:List bH}{x:bH}
theorem Gx {α:Type}(d:α){l:List α}{i:Nat}(h:i<l.length):l.take (i+1)=l.take i++[l.getD i d]:=by
 rw[List.take_succ_eq_append_getElem h,ig,lu h];rfl
def NM (v:List Rat)(s:Nat)(out:List Rat)(x:bH):List Rat:=if x.l=s then out.set x.t (out.getD x.t 0+v.getD x.f 0*x.q) else out
def jc (n:Nat)(v:List Rat)(s:Nat)(l:List bH):List Rat:=l.foldl (NM v s) (List.replicate n 0)
theorem UD:(NM v s out x).length=out.length:=by unfold NM;split <;> simp
theorem wY:(jc n v s l).length=n:=by
 have:∀ (l:List bH) (out:List Rat),(l.foldl (NM v s) out).length=out.length:=λl=>by
  induction l with
  | nil=>exact λ_=>rfl
  | cons x l ih=>exact λout=>by rw[List.foldl_cons,ih,UD]
 unfold jc;rw[this,List.length_replicate]
theorem DI (h:i<l.length):jc n v s (l.take (i+1))=NM v s (jc n v s (l.take i)) (l.getD i default):=by
 unfold jc;rw[Gx default h,List.foldl_append];rfl
theorem ZI {l:List Rat}{y:Rat}(hi:i<l.length):(l.set i y).getD j 0=if i=j then y else l.getD j 0:=by
 rw[ig,List.getElem?_set,ig];by_cases h:i=j
 .subst h;rw[if_pos rfl,if_pos hi,if_pos rfl];rfl
 .rw[if_neg h,if_neg h]
def inF (v:List Rat)(s j:Nat)(x:bH):Rat:=if x.l=s/\x.t=j then v.getD x.f 0*x.q else 0
theorem Qb:∀ (l:List bH) (out:List Rat),(∀ x,x ∈ l->x.t<out.length)->(l.foldl (NM v s) out).getD j 0=out.getD j 0+jR (inF v s j) l
 | [],out,_=>by rw[List.foldl_nil,jR,Rat.add_zero]
 | x :: l, out, h => by
  have hx:=h x uZ;rw[List.foldl_cons,Qb l _ (λy hy=>by rw[UD];exact h y (List.mem_cons_of_mem _ hy)),jR,<- Rat.add_assoc]
  congr 1;unfold NM inF;by_cases hl:x.l=s
  .rw[if_pos hl,ZI hx];by_cases ht:x.t=j
   .rw[if_pos ht,if_pos ⟨hl,ht⟩,ht]
   .rw[if_neg ht,if_neg (λe=>ht e.2),Rat.add_zero]
  .rw[if_neg hl,if_neg (λe=>hl e.1),Rat.add_zero]
theorem aE1:(List.replicate n (0:Rat)).getD j 0=0:=by
 rw[ig,List.getElem?_replicate]
 split <;> rfl
theorem Jh (h:∀ x,x ∈ l->x.t<n):(jc n v s l).getD j 0=jR (inF v s j) l:=by
 unfold jc;rw[Qb l _ (λx hx=>by rw[List.length_replicate];exact h x hx),aE1,Rat.zero_add]
theorem aE2 (l:List bH)(hf:∀ x,x ∈ l->x.f<n):aX (λi=>v.getD i 0*iU l k i j) n=jR (inF v (k+1) j) l:=by
 induction l with
 | nil=>rw[jR];exact mJ λi _=>by rw[x8,Rat.mul_zero]
 | cons x l ih =>
  rw[jR,<- ih λy hy=>hf y (List.mem_cons_of_mem _ hy)];have e:(λi=>v.getD i 0*iU (x::l) k i j)=λi=>v.getD i 0*wu k i j x+v.getD i 0*iU l k i j:=by
   funext i;rw[sK,Rat.mul_add]
  rw[e,rG];congr 1;unfold inF;by_cases hc:x.l=k+1/\x.t=j
  .rw[if_pos hc];have e2:(λi=>v.getD i 0*wu k i j x)=λi=>if x.f=i then v.getD i 0*x.q else 0:=by
    funext i;unfold wu;by_cases hi:x.f=i
    .rw[if_pos ⟨hi,hc.1,hc.2⟩,if_pos hi]
    .rw[if_neg (λe=>hi e.1),if_neg hi,Rat.mul_zero]
   rw[e2,wU (v:=λi=>v.getD i 0*x.q) (hf x uZ)]
  .rw[if_neg hc];exact mJ λi _=>by
    unfold wu;rw[if_neg (λe=>hc ⟨e.2.1,e.2.2⟩),Rat.mul_zero]
theorem WO (ha:a.Ok)(s1:1<=s)(s2:s<=a.sym):jc a.st v s a.aS=stepM (cZ [a]) v (s-1):=by
 have hn:(cZ [a]).n=a.st:=jm;refine List.ext_getElem (by rw[wY,BJ,hn]) λj h1 h2=>?_
 rw[wY] at h1;have e1:(jc a.st v s a.aS)[j]=(jc a.st v s a.aS).getD j 0:=by rw[ig,lu];rfl
 have e2:(stepM (cZ [a]) v (s-1))[j]=(stepM (cZ [a]) v (s-1)).getD j 0:=by rw[ig,lu];rfl
 rw[e1,e2,Jh λx hx=>(ha.arc x hx).2.1];unfold stepM;rw[hn,aT _ _ h1];have e3:s-1+1=s:=by omega
 rw[show jR (inF v s j) a.aS=jR (inF v (s-1+1) j) a.aS by rw[e3],<- aE2 (n:=a.st) a.aS λx hx=>(ha.arc x hx).1]
 refine aN λi hi=>?_;rw[I8 (l:=[a]) (by show s-1<a.sym;omega) (by rw[jm];exact hi) (by rw[jm];exact h1)]
 show _=_*(if i<a.st then (if j<a.st then iU a.aS (s-1) i j else 0) else _)
 rw[if_pos hi,if_pos h1]
def Ji (a:Au)(u:List Int):List Rat:=u.foldl (λv x=>jc a.st v x.toNat a.aS) a.ini
theorem Ik {u:List Int}(h:i<u.length):Ji a (u.take (i+1))=jc a.st (Ji a (u.take i)) (u.getD i 0).toNat a.aS:=by
 unfold Ji;rw[Gx 0 h,List.foldl_append];rfl
theorem KL (ha:a.Ok)(u:List Int):(Ji a u).length=a.st:=by
 have:∀ (u:List Int) (v:List Rat),v.length=a.st->(u.foldl (λv x=>jc a.st v x.toNat a.aS) v).length=a.st:=λu=>by
  induction u with
  | nil=>exact λ_ h=>h
  | cons x u ih=>exact λv _=>ih _ wY
 exact this u a.ini ha.ini
theorem aE3 (ha:a.Ok){u:List Int}(hu:kC a.sym u):Ji a u=bP (cZ [a]) u:=by
 have:∀ (u:List Int) (v:List Rat),kC a.sym u->u.foldl (λv x=>jc a.st v x.toNat a.aS) v=u.foldl (λv x=>stepM (cZ [a]) v (x.toNat-1)) v:=λu=>by
  induction u with
  | nil=>exact λ_ _=>rfl
  | cons x u ih =>
   intro v hx;have h1:=hx x uZ;rw[List.foldl_cons,List.foldl_cons,WO ha (by omega) (by omega)]
   exact ih _ λy hy=>hx y (List.mem_cons_of_mem _ hy)
 unfold Ji bP;rw[this u a.ini hu,show (cZ [a]).ini=a.ini from List.append_nil _]
def EI (v w:List Rat)(i:Nat):Rat:=aX (λi=>v.getD i 0*w.getD i 0) i
theorem UE (ha:a.Ok){u:List Int}(hu:kC a.sym u):EI (Ji a u) a.fin a.st=iD a u:=by
 rw[aE3 ha hu];unfold EI iD wV vZ;rw[show (cZ [a]).n=a.st from jm,show (cZ [a]).fin=a.fin from List.append_nil _]
theorem UF {B:Nat}(hv:∀ i,sz (v.getD i 0)<=B)(hl:∀ x,x ∈ l->x.t<n/\sz x.q<=6)(h10:l.length<=20):sz ((jc n v s l).getD j 0)<=20*(B+7)+1:=by
 rw[Jh λx hx=>(hl x hx).1];have h1:=Ih (f:=inF v s j) (C:=B+6) (l:=l) λx hx=>by
  unfold inF
  split
  .have:=mD (v.getD x.f 0) x.q;have:=hv x.f;have:=(hl x hx).2;omega
  .rw[gm];omega
 have h2:=Nat.mul_le_mul_right (B+6+1) h10;omega
def fB:Nat->Nat
 | 0=>6
 | k+1=>20*(fB k+7)+1
theorem Qc {B:Nat}{v:List Rat}(h:Small B v)(h1:1<=B)(i:Nat):sz (v.getD i 0)<=B:=by
 rw[ig];cases hg:v[i]? with
 | none=>show sz 0<=B;rw[gm];exact h1
 | some q=>exact h q (List.mem_of_getElem? hg)
theorem WQ (ha:a.Ok)(hz:a.Sz 6 20)(u:List Int):∀ k,k<=u.length->∀ j,sz ((Ji a (u.take k)).getD j 0)<=fB k
 | 0,_,j=>by
  rw[List.take_zero];exact Qc hz.ini (by decide) j
 | k+1,hk,j=>by
  rw[Ik (by omega)]
  exact UF (WQ ha hz u k (by omega)) (λx hx=>⟨(ha.arc x hx).2.1,hz.arc x hx⟩) hz.num
theorem aL4 (hk:k<=4):fB k<=2147361:=by
 have:k=0 \/ k=1 \/ k=2 \/ k=3 \/ k=4:=by omega
 rcases this with rfl|rfl|rfl|rfl|rfl <;> decide
end
section
variable {m:dP}{B k:Nat}{V K Q:List (List Int)}{w u:List Int}{rs:List bW}{y:Ye}{v:List Rat}{r:bW}
def wH (k:Nat)(K:List (List Int)):List (List Int):=[]::K.flatMap (cu k)
theorem NP:wH k (K++[w])=wH k K++cu k w:=by
 unfold wH;rw[List.flatMap_append,List.flatMap_cons,List.flatMap_nil,List.append_nil,List.cons_append]
structure pK (m:dP) (B:Nat) (Q:List (List Int)) (y:Ye):Prop where
 sp:uK m.n B y.rs
 join:∃ V,Join m V y.ks Q y.rs/\V++Q=wH m.k y.ks
 len:Dz y.ks Q
 lead:∀ r,r ∈ y.rs->r.p=iP r.v
 ord:y.ks.Pairwise λa b=>nO a b<0
theorem pK.start (m:dP)(B:Nat):pK m B [[]] ⟨[],[]⟩:=⟨uK.nil,⟨[],Join.start m,rfl⟩,Dz.start,λ_ h=>(by cases h),List.Pairwise.nil⟩
theorem pK.b (h:pK m B Q y):NC m B Q y:=⟨h.sp,have ⟨V,j,_⟩:=h.join;⟨V,j⟩,h.len⟩
theorem pK.next (ok:m.Ok)(h1:1<=B)(hz:∀ i,sz ((bP m w).getD i 0)<=B)(h:pK m B (w::Q) y) :
  ((zN m w y).1=true->pK m B (Q++cu m.k w) (zN m w y).2/\qV m (Q++cu m.k w) (zN m w y).2.rs<qV m (w::Q) y.rs)/\((zN m w y).1=false->pK m B Q (zN m w y).2/\qV m Q (zN m w y).2.rs<qV m (w::Q) y.rs):=by
 obtain⟨V,j,e⟩:=h.join;unfold zN;by_cases hg:bM y.rs (bP m w)=true
 .rw[if_pos hg];refine⟨λ_=>⟨⟨h.sp.grow (wo ok w) h1 hz hg,⟨_,j.keep ok hg,?_⟩,h.len.keep,λr hr=>?_,?_⟩,Fb ok j hg⟩,λx=>by cases x⟩
  .show V++[w]++(Q++cu m.k w)=wH m.k (y.ks++[w])
   rw[NP,<- e,List.append_assoc,List.append_assoc];rfl
  .rcases ul hr with hr|hr
   .exact h.lead r hr
   .rw[lW hr];rfl
  .refine List.pairwise_append.2 ⟨h.ord,List.pairwise_singleton ..,λu hu q hq=>?_⟩;rw[lW hq];exact (List.pairwise_append.1 j.Ou.ord).2.2 u (j.Ou.sub u hu) w uZ
 .rw[if_neg hg];have hg:bM y.rs (bP m w)=false:=by simpa using hg
  exact⟨λx=>(by cases x),λ_=>⟨⟨h.sp,⟨_,j.drop ok hg,by rw[List.append_assoc];exact e⟩,h.len.drop,h.lead,h.ord⟩,yP⟩⟩
def oJ (r:bW):List Rat:=r.v.map λx=>x / r.v.getD r.p 0
theorem FB:(oJ r).length=r.v.length:=dJ ..
theorem Jj (i:Nat):(oJ r).getD i 0=r.v.getD i 0 / r.v.getD r.p 0:=by
 unfold oJ;rw[ig,List.getElem?_map,ig (l:=r.v) (i:=i)];cases r.v[i]? with
 | none=>show (0:Rat)=0 / _;rw[Rat.div_def,Rat.zero_mul]
 | some x=>rfl
theorem Qd {l:List Rat}{p:Nat}(hp:p<l.length)(h0:l.getD p 0≠0)(hb:∀ i,i<p->l.getD i 0=0):iP l=p:=by
 rcases Nat.lt_trichotomy (iP l) p with g|g|g
 .exact absurd (hb _ g) (yO (Nat.lt_trans g hp))
 .exact g
 .exact absurd (ug g) h0
def aL5 (f:Rat)(u v:List Rat):List Rat:=(List.range v.length).map λi=>v.getD i 0-f*u.getD i 0
theorem WR (h0:r.v.getD r.p 0≠0):aL5 (v.getD r.p 0) (oJ r) v=jl v r:=by
 unfold aL5 jl;refine List.map_congr_left λi _=>?_;rw[Jj];unfold jZ;rw[Rat.div_def,Rat.div_def,Rat.mul_assoc,Rat.mul_comm (r.v.getD i 0)]
theorem EJ:bM rs v=true ↔ iP (bg rs v)<(bg rs v).length:=by unfold bM;exact decide_eq_true_iff
theorem UG (hs:∀ u,u ∈ K->u ∈ wH k K):∀ (n:Nat) (u:List Int),u.length=n->u ∈ K->kC k u
 | n, u, hn, hu => by
  rcases List.mem_cons.1 (hs u hu) with rfl|h
  .exact λx hx=>by cases hx
  .obtain⟨z,hz,h⟩:=List.mem_flatMap.1 h;obtain⟨s,hs2,rfl⟩:=mM h;rw[jG,oU] at hn;have ih:=UG hs z.length z rfl hz;have:=List.mem_range.1 hs2;intro x hx;rcases ul hx with hx|hx
   .exact ih x hx
   .rw[lW hx];omega
termination_by n=>n
end
section
variable {a:Au}{n s j k B C N:Nat}{v:List Rat}{l:List bH}
theorem Qe (hv:∀ i,sz (v.getD i 0)<=B)(hl:∀ x,x ∈ l->x.t<n/\sz x.q<=C)(hN:l.length<=N)(h1:1<=B+C):sz ((jc n v s l).getD j 0)<=N*(B+C+1)+1:=by
 rw[Jh λx hx=>(hl x hx).1];have h2:=Ih (f:=inF v s j) (C:=B+C) (l:=l) λx hx=>by
  unfold inF
  split
  .have:=mD (v.getD x.f 0) x.q;have:=hv x.f;have:=(hl x hx).2;omega
  .rw[gm];exact h1
 have h3:=Nat.mul_le_mul_right (B+C+1) hN;omega
structure Au.Fw (a:Au):Prop where
 ok:a.Ok
 few:a.Pj
 s4:a.sym<=4
 st1:1<=a.st
 arc:∀ x,x ∈ a.aS->sz x.q<=5000
 num:a.aS.length<=40
theorem Au.Fw.aS0 (f:a.Fw):(cZ [a]).Ok/\(cZ [a]).Full/\(cZ [a]).Sz 24/\(cZ [a]).n=a.st :=
 ⟨Ub f.ok,Gt _,Ii (λx hx=>by rw[lW hx];exact f.few) (by rw[jm];exact f.few.st) f.s4,jm⟩
end
section
variable {m:dP}{rs:List bW}{r:bW}{v w:List Rat}{L K:List (List Int)}{a:Au}
def Yi (v w:List Rat)(c:Rat):List Rat:=(List.range v.length).map λi=>v.getD i 0-w.getD i 0*c
theorem am5 (h:∀ r,r ∈ rs->r.p=iP r.v):∀ r,r ∈ wB rs w->r.p=iP r.v:=λr hr=>by
 unfold wB at hr
 split at hr
 .rcases ul hr with hr|hr
  .exact h r hr
  .rw[lW hr];rfl
 .exact h r hr
end
section
variable {n:Nat}{rs:List bW}{r:bW}{v w:List Rat}
theorem am6 {B:Nat}(h:∀ i,sz (r.v.getD i 0)<=B)(i:Nat):sz ((oJ r).getD i 0)<=B+B:=by
 rw[Jj];have:=MI (r.v.getD i 0) (r.v.getD r.p 0);have:=h i;have:=h r.p;omega
end
section
variable {m:dP}{L V:List (List Int)}{rs:List bW}{w u:List Int}
theorem Jk (ok:m.Ok)(j:Join (dA m) V L [] rs)(hw:kC m.k w):∃ c:Nat->Rat,∀ i,i<m.n->(bP (dA m) w).getD i 0=aX (λl=>c l*(bP (dA m) (L.getD l [])).getD i 0) L.length:=by
 have h:=j.Ou.reach w (by rw[tu];exact hw) λq hq=>by cases hq
 have h2:bU (dA m).n (Dx (dA m) L) (vf (bP (dA m) w)):=h.mono λb hb=>by
  obtain⟨u,hu,rfl⟩:=mM hb;exact List.mem_map.2 ⟨u,(fD.1 hu).1,rfl⟩
 obtain⟨c,hc⟩:=h2.aQ1;refine⟨c,λi hi=>?_⟩;have hv:(Dx (dA m) L).length=L.length:=dJ ..;have e:=hc i hi;rw[hv] at e;refine e.trans (aN λl hl=>?_);have ev:(Dx (dA m) L).getD l []=bP (dA m) (L.getD l []):=by
  unfold Dx;simp[ig,lu hl]
 rw[ev]
theorem RD {n N:Nat}{x:Nat->Rat}{y:Nat->Rat}{c:Nat->Rat}{b:Nat->Nat->Rat}(h:∀ i,i<n->y i=aX (λl=>c l*b l i) N):vZ n x y=aX (λl=>vZ n x (b l)*c l) N:=by
 unfold vZ;have e1:aX (λi=>x i*y i) n=aX (λi=>aX (λl=>x i*(c l*b l i)) N) n:=aN λi hi=>by rw[h i hi,<- jo]
 have e2:aX (λl=>aX (λi=>x i*b l i) n*c l) N=aX (λl=>aX (λi=>x i*(c l*b l i)) n) N:=aN λl _=>by
  rw[<- uU];exact aN λi _=>by rw[Rat.mul_comm (c l),Rat.mul_assoc]
 rw[e1,e2,sG]
theorem ZJ (ok:m.Ok)(j:Join (dA m) V L [] rs)(hL:∀ l,l ∈ L->kC m.k l):∃ mv:dP,mv.n=L.length/\mv.k=m.k/\mv.Ok/\(∀ w,kC m.k w->bP mv w=oH m L w)/\∀ w,kC m.k w->wV mv w=wV m w:=by
 have inL:∀ l,l<L.length->∀ s,s<m.k->kC m.k (L.getD l [])->kC m.k (L.getD l []++[((s+1:Nat):Int)]):=λl _ s hs h x hx=>by
  rcases ul hx with hx|hx
  .exact h x hx
  .rw[lW hx];omega
 have ex:∀ (s l:Nat),∃ c:Nat->Rat,kC m.k (L.getD l []++[((s+1:Nat):Int)])->∀ i,i<m.n->(bP (dA m) (L.getD l []++[((s+1:Nat):Int)])).getD i 0=aX (λq=>c q*(bP (dA m) (L.getD q [])).getD i 0) L.length:=λs l=>by
  by_cases hw:kC m.k (L.getD l []++[((s+1:Nat):Int)])
  .obtain⟨c,hc⟩:=Jk ok j hw;exact⟨c,λ_=>hc⟩
  .exact⟨λ_=>0,λh=>absurd h hw⟩
 obtain⟨d,hd⟩:=Jk (w:=[]) ok j λx hx=>by cases hx
 have hC:∃ C:Nat->Nat->Nat->Rat,∀ s l,kC m.k (L.getD l []++[((s+1:Nat):Int)])->∀ i,i<m.n->(bP (dA m) (L.getD l []++[((s+1:Nat):Int)])).getD i 0=aX (λq=>C s l q*(bP (dA m) (L.getD q [])).getD i 0) L.length :=
  ⟨λs l=>(ex s l).choose,λs l=>(ex s l).choose_spec⟩
 obtain⟨C,hC⟩:=hC;have hin:∀ l,l<L.length->kC m.k (L.getD l []):=λl hl=>by
  have hmem:L.getD l [] ∈ L:=getD_mem hl [];exact hL _ hmem
 let mv:dP:=⟨L.length,oH m L [],(List.range L.length).map d,(List.range m.k).map λs=>GK L.length λi q=>C s q i⟩
 have hk:mv.k=m.k:=by show ((List.range m.k).map _).length=m.k;simp
 have hent:∀ s i q,s<m.k->i<L.length->q<L.length->oq mv s i q=C s q i:=λs i q hs hi hq=>by
  show ((((List.range m.k).map λs=>GK L.length λi q=>C s q i).getD s []).getD i []).getD q 0=_
  rw[aT _ _ hs,Rl hi hq]
 have bc8:∀ (n:Nat) (w:List Int),w.length=n->kC m.k w->bP mv w=oH m L w:=by
  intro n
  induction n with
  | zero=>intro w hn _;rw[IK hn];rfl
  | succ n ih =>
   intro w hn hw;have hne:w≠[]:=λe=>by rw[e] at hn;cases hn
   obtain⟨z,x,rfl⟩:∃ z x,w=z++[x]:=⟨w.dropLast,w.getLast hne,(List.dropLast_concat_getLast hne).symm⟩;have hx:=hw x (by simp)
   obtain⟨s,hs,rfl⟩:∃ s:Nat,s<m.k/\x=((s+1:Nat):Int):=⟨x.toNat-1,by omega,by omega⟩
   have hz:kC m.k z:=λq hq=>hw q (List.mem_append.2 (.inl hq));rw[lm,ih z (by rw[jG,oU] at hn;omega) hz]
   refine List.ext_getElem (by rw[BJ,NE]) λq h1 h2=>?_
   rw[NE] at h2;have g1:∀ (l:List Rat) (h:q<l.length),l[q]=l.getD q 0:=λl h=>by rw[ig,lu h];rfl
   rw[g1,g1];have e1:(oH m L (z++[((s+1:Nat):Int)])).getD q 0=lZ m (z++[((s+1:Nat):Int)]) (L.getD q []):=aT _ _ h2;have es:(((s+1:Nat):Int)).toNat-1=s:=by omega
   rw[e1,es];unfold stepM;rw[show mv.n=L.length from rfl,aT _ _ h2]
   unfold lZ;rw[lm,es,Uf hs];have e2:stepM (dA m) (bP (dA m) (L.getD q [])) s=bP (dA m) (L.getD q []++[((s+1:Nat):Int)]):=by rw[lm,es]
   rw[e2,RD (y:=vf (bP (dA m) (L.getD q []++[((s+1:Nat):Int)]))) (b:=λl=>vf (bP (dA m) (L.getD l []))) (λi hi=>hC s q (inL q h2 s hs (hin q h2)) i hi)];refine aN λl hl=>?_;rw[hent s l q hs hl h2,show (oH m L z).getD l 0=lZ m z (L.getD l []) from aT _ _ hl]
   rfl
 refine⟨mv,rfl,hk,⟨NE,by show ((List.range L.length).map d).length=L.length;simp⟩,λw hw=>bc8 w.length w rfl hw,λw hw=>?_⟩
 unfold wV;rw[bc8 w.length w rfl hw,RD (n:=m.n) (y:=vf m.fin) (b:=λl=>vf (bP (dA m) (L.getD l []))) hd];unfold vZ;rw[show mv.n=L.length from rfl]
 refine aN λl hl=>?_;rw[show vf (oH m L w) l=lZ m w (L.getD l []) from aT _ _ hl,show vf mv.fin l=d l from aT _ _ hl]
 rfl

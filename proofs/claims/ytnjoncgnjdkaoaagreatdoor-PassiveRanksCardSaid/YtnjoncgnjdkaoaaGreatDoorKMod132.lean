/-
  M, chapters 29 and 30: searches in lists of words; all words of at most a length, one behind the other.
-/
import Derived.Test.YtnjoncgnjdkaoaaGreatDoorKMod130
set_option linter.unusedVariables false
set_option linter.unusedSimpArgs false
namespace Go.AL
open Go Go.BigFrame
def ay (F:List (List Int))(vs:List Rat)(w:List Int):Rat:=vs.getD (F.idxOf w) 0
def gX (f:List Int->Rat)(C:List (List Int))(i:Nat):List bJ:=Es ((C.take i).map (bU f C))
def eU (f:List Int->Rat)(C:List (List Int)):Nat->List (List Int)
 | 0=>[]
 | i+1=>if bg (gX f C i) (bU f C (C.getD i []))=true then eU f C i++[C.getD i []] else eU f C i
def sO (f:List Int->Rat)(C:List (List Int))(u:List Int)(l:Nat):List Rat:=bU f C (u++[(l:Int)])
def Ro (fr l:Nat)(cs:List Rat)(t:Nat):List bD:=if cs.getD t 0=0 then [] else [⟨fr,l,t,cs.getD t 0⟩]
def DJ (fr l:Nat)(cs:List Rat)(i:Nat):List bD:=(List.range i).flatMap (Ro fr l cs)
def zK (f:List Int->Rat)(C:List (List Int))(rs:List bJ)(fr:Nat)(u:List Int)(n:Nat):List bD:=(List.range n).flatMap λl=>DJ fr (l+1) (bZ rs (sO f C u (l+1))) rs.length
def vF (f:List Int->Rat)(C:List (List Int))(rs:List bJ)(K:List (List Int))(s n:Nat):List bD:=(List.range n).flatMap λi=>zK f C rs i (K.getD i []) s
def Gm (u:List Int):Rat:=if u.length=0 then 1 else 0
def Ya (s:Nat)(f:List Int->Rat)(C:List (List Int)):Au :=
 ⟨s,(eU f C C.length).length,(eU f C C.length).map Gm,(eU f C C.length).map f,vF f C (gX f C C.length) (eU f C C.length) s (eU f C C.length).length⟩
def RcQ (s:Nat)(f:List Int->Rat)(C F:List (List Int)):Option Au->Prop
 | none=>(∃ u l,u ∈ eU f C C.length/\1<=l/\l<=s/\bg (gX f C C.length) (sO f C u l)=true) \/ ∃ w,w ∈ F/\jm (Ya s f C) w≠f w
 | some a=>a=Ya s f C/\(∀ u l,u ∈ eU f C C.length->1<=l->l<=s->bg (gX f C C.length) (sO f C u l)=false)/\∀ w,w ∈ F->jm a w=f w
section
variable {f:List Int->Rat}{C K:List (List Int)}{i s n l B fr:Nat}{u:List Int}{rs:List bJ}{cs:List Rat}{x:bD}
theorem oZ {α:Type}{l:List α}{i:Nat}(d:α)(hi:i<l.length):l.take (i+1)=l.take i++[l.getD i d]:=by
 rw[List.take_succ_eq_append_getElem hi,gI,kL hi];rfl
theorem Jd {α:Type}{g:Nat->List α}:(List.range (n+1)).flatMap g=(List.range n).flatMap g++g n:=by
 rw[List.range_succ,List.flatMap_append];simp
theorem Ic (hi:i<C.length):gX f C (i+1)=vw (gX f C i) (bU f C (C.getD i [])):=by
 unfold gX;rw[oZ [] hi,List.map_append,List.map_singleton,Ny]
theorem aI2 (hi:i<C.length)(h:bg (gX f C i) (bU f C (C.getD i []))=true):gX f C (i+1)=gX f C i++[newR (gX f C i) (bU f C (C.getD i []))]:=by
 rw[Ic hi];exact if_pos h
theorem aI3 (hi:i<C.length)(h:bg (gX f C i) (bU f C (C.getD i []))=false):gX f C (i+1)=gX f C i:=by
 rw[Ic hi];exact if_neg (by rw[h];exact Bool.false_ne_true)
theorem P9 (h:bg (gX f C i) (bU f C (C.getD i []))=true):eU f C (i+1)=eU f C i++[C.getD i []]:=by rw[eU,if_pos h]
theorem Qa (h:bg (gX f C i) (bU f C (C.getD i []))=false):eU f C (i+1)=eU f C i:=by rw[eU,if_neg (by rw[h];exact Bool.false_ne_true)]
theorem Dw:∀ {i:Nat},i<=C.length->(eU f C i).length=(gX f C i).length
 | 0,_=>rfl
 | i+1,hi=>by
  cases h:bg (gX f C i) (bU f C (C.getD i [])) with
  | true=>rw[P9 h,aI2 hi h,iU,iU,Dw (by omega)];rfl
  | false=>rw[Qa h,aI3 hi h,Dw (by omega)]
theorem Rq:∀ {i:Nat},i<=C.length->∀ u,u ∈ eU f C i->u ∈ C
 | 0,_,u,h=>by cases h
 | i + 1, hi, u, hu => by
  cases h:bg (gX f C i) (bU f C (C.getD i [])) with
  | true =>
   rw[P9 h] at hu;rcases rD hu with hu|hu
   .exact Rq (by omega) u hu
   .rw[kJ hu];exact getD_mem hi []
  | false=>rw[Qa h] at hu;exact Rq (by omega) u hu
theorem Gn:∀ {i:Nat},(eU f C i).length<=i
 | 0=>Nat.le_refl _
 | i+1=>by
  have h:=Gn (i:=i);rw[eU]
  split
  .rw[iU,jL];omega
  .omega
theorem Qb {P:Rat->Prop}(h0:P 0)(hf:∀ w,P (f w))(u:List Int)(j:Nat):P ((bU f C u).getD j 0):=by
 rcases Nat.lt_or_ge j C.length with h|h
 .rw[uy h];exact hf _
 .rw[uq (by rw[show (bU f C u).length=C.length from dD ..];exact h)];exact h0
theorem wu (h1:1<=B)(hf:∀ w,sz (f w)<=B)(u:List Int)(j:Nat):sz ((bU f C u).getD j 0)<=B:=Qb (P:=λq=>sz q<=B) (by rw[fK];exact h1) hf u j
theorem Je (h1:1<=B)(hf:∀ w,sz (f w)<=B)(i:Nat):pK C.length B (gX f C i) :=
 (H9 h1 _ (λv hv=>by obtain⟨u,_,rfl⟩:=jY hv;exact dD ..) λv hv=>by
  obtain⟨u,hu,rfl⟩:=jY hv;exact wu h1 hf u).1
theorem Fp:DJ fr l cs (i+1)=DJ fr l cs i++Ro fr l cs i:=Jd
theorem Jf:zK f C rs fr u (n+1)=zK f C rs fr u n++DJ fr (n+1) (bZ rs (sO f C u (n+1))) rs.length:=Jd
theorem Fq:vF f C rs K s (n+1)=vF f C rs K s n++zK f C rs n (K.getD n []) s:=Jd
theorem NC:∀ {i:Nat},(DJ fr l cs i).length<=i
 | 0=>Nat.le_refl _
 | i+1=>by
  have h:=NC (i:=i);rw[Fp,iU,Ro]
  split
  .exact Nat.le_succ_of_le h
  .show _+1<=_;omega
theorem ND:∀ {n:Nat},(zK f C rs fr u n).length<=n*rs.length
 | 0=>Nat.zero_le _
 | n+1=>by
  have h:=ND (n:=n);have h2:=NC (fr:=fr) (l:=n+1) (cs:=bZ rs (sO f C u (n+1))) (i:=rs.length);rw[Jf,iU,Nat.succ_mul];omega
theorem NE:∀ {n:Nat},(vF f C rs K s n).length<=n*(s*rs.length)
 | 0=>Nat.zero_le _
 | n+1=>by
  have h:=NE (n:=n);have h2:=ND (f:=f) (C:=C) (rs:=rs) (fr:=n) (u:=K.getD n []) (n:=s);rw[Fq,iU,Nat.succ_mul];omega
theorem UK (hx:x ∈ vF f C rs K s n):x.f<n/\1<=x.l/\x.l<=s/\x.t<rs.length/\x.q=(bZ rs (sO f C (K.getD x.f []) x.l)).getD x.t 0:=by
 unfold vF zK DJ at hx;obtain⟨i,hi,hx⟩:=List.mem_flatMap.1 hx;obtain⟨l,hl,hx⟩:=List.mem_flatMap.1 hx;obtain⟨t,ht,hx⟩:=List.mem_flatMap.1 hx;have hi:=List.mem_range.1 hi;have hl:=List.mem_range.1 hl;have ht:=List.mem_range.1 ht;unfold Ro at hx
 split at hx
 .cases hx
 .rw[kJ hx];exact⟨hi,by show 1<=l+1;omega,by show l+1<=s;omega,ht,rfl⟩
theorem aO5 (h1:1<=s):(Ya s f C).Ok:=⟨h1,dD ..,dD ..,λx hx=>by
 obtain⟨a,b,c,d,_⟩:=UK hx;rw[<- Dw (Nat.le_refl _)] at d;exact⟨a,d,b,c⟩⟩
theorem aO6 (h1:1<=B)(c3:C.length<=3)(s2:s<=2)(hf:∀ w,sz (f w)<=B):(Ya s f C).Sz (64*(B+1)) 18:=by
 have hle:=Gn (f:=f) (C:=C) (i:=C.length);have hbl:=Dw (f:=f) (C:=C) (Nat.le_refl C.length);refine⟨λq hq=>?_,λq hq=>?_,λx hx=>?_,?_⟩
 .obtain⟨u,_,rfl⟩:=jY hq;unfold Gm
  split
  .rw[Ld];omega
  .rw[fK];omega
 .obtain⟨u,hu,rfl⟩:=jY hq;have:=hf u;omega
 .obtain⟨a,b,c,d,e⟩:=UK hx;rw[e];have sp:=Je (C:=C) h1 hf C.length;have h:=sp.sz.tX h1 (wu (C:=C) h1 hf ((eU f C C.length).getD x.f []++[(x.l:Int)])) (gX f C C.length).length x.t;have h4:4 ^ (gX f C C.length).length<=4 ^ 3:=Nat.pow_le_pow_right (by decide) (by omega)
  have h5:=Nat.mul_le_mul_right (B+1) h4;rw[show (4:Nat) ^ 3=64 from rfl] at h5
  show sz ((tX _ _ _).getD x.t 0)<=_
  unfold sO;omega
 .have h:=NE (f:=f) (C:=C) (rs:=gX f C C.length) (K:=eU f C C.length) (s:=s) (n:=(eU f C C.length).length);have a:s*(gX f C C.length).length<=2*3:=Nat.mul_le_mul s2 (by omega)
  have b:=Nat.mul_le_mul (show (eU f C C.length).length<=3 by omega) a
  exact Nat.le_trans h b
theorem UL {α:Type}{g:α->Rat}:∀ (a b:List α),jD g (a++b)=jD g a+jD g b
 | [],b=>by rw[List.nil_append,jD,Rat.zero_add]
 | x::a,b=>by rw[List.cons_append,jD,jD,UL a b,Rat.add_assoc]
theorem Rt {a b:List bD}{s i j:Nat}:jd (a++b) s i j=jd a s i j+jd b s i j:=UL a b
theorem am0 {s i j:Nat}:jd [] s i j=0:=rfl
theorem am1 {s i j t:Nat}:jd (Ro fr l cs t) s i j=if fr=i/\l=s+1/\t=j then cs.getD t 0 else 0:=by
 unfold Ro
 split
 .rename_i h;rw[h,am0];split <;> rfl
 .show (if fr=i/\l=s+1/\t=j then cs.getD t 0 else 0)+0=_
  rw[Rat.add_zero]
theorem UM {s i j:Nat}:∀ {n:Nat},jd (DJ fr l cs n) s i j=if fr=i/\l=s+1/\j<n then cs.getD j 0 else 0
 | 0=>by rw[if_neg (by omega)];rfl
 | n + 1 => by
  rw[Fp,Rt,UM (n:=n),am1];by_cases h:fr=i/\l=s+1
  .rcases Nat.lt_trichotomy j n with c|c|c
   .rw[if_pos ⟨h.1,h.2,c⟩,if_neg (by omega),if_pos ⟨h.1,h.2,by omega⟩,Rat.add_zero]
   .subst c;rw[if_neg (by omega),if_pos ⟨h.1,h.2,rfl⟩,if_pos ⟨h.1,h.2,by omega⟩,Rat.zero_add]
   .rw[if_neg (by omega),if_neg (by omega),if_neg (by omega),Rat.zero_add]
  .rw[if_neg (λx=>h ⟨x.1,x.2.1⟩),if_neg (λx=>h ⟨x.1,x.2.1⟩),if_neg (λx=>h ⟨x.1,x.2.1⟩),Rat.zero_add]
theorem UN {s i j:Nat}:∀ {n:Nat},jd (zK f C rs fr u n) s i j=if fr=i/\s<n/\j<rs.length then (bZ rs (sO f C u (s+1))).getD j 0 else 0
 | 0=>by rw[if_neg (by omega)];rfl
 | n + 1 => by
  rw[Jf,Rt,UN (n:=n),UM];by_cases h:fr=i/\j<rs.length
  .rcases Nat.lt_trichotomy s n with c|c|c
   .rw[if_pos ⟨h.1,c,h.2⟩,if_neg (by omega),if_pos ⟨h.1,by omega,h.2⟩,Rat.add_zero]
   .subst c;rw[if_neg (by omega),if_pos ⟨h.1,rfl,h.2⟩,if_pos ⟨h.1,by omega,h.2⟩,Rat.zero_add]
   .rw[if_neg (by omega),if_neg (by omega),if_neg (by omega),Rat.zero_add]
  .rw[if_neg (λx=>h ⟨x.1,x.2.2⟩),if_neg (λx=>h ⟨x.1,x.2.2⟩),if_neg (λx=>h ⟨x.1,x.2.2⟩),Rat.zero_add]
theorem UO {S s i j:Nat}:∀ {n:Nat},jd (vF f C rs K S n) s i j=if i<n/\s<S/\j<rs.length then (bZ rs (sO f C (K.getD i []) (s+1))).getD j 0 else 0
 | 0=>by rw[if_neg (by omega)];rfl
 | n + 1 => by
  rw[Fq,Rt,UO (n:=n),UN];by_cases h:s<S/\j<rs.length
  .rcases Nat.lt_trichotomy i n with c|c|c
   .rw[if_pos ⟨c,h⟩,if_neg (by omega),if_pos ⟨by omega,h⟩,Rat.add_zero]
   .subst c;rw[if_neg (by omega),if_pos ⟨rfl,h⟩,if_pos ⟨by omega,h⟩,Rat.zero_add]
   .rw[if_neg (by omega),if_neg (by omega),if_neg (by omega),Rat.zero_add]
  .rw[if_neg (λx=>h x.2),if_neg (λx=>h x.2),if_neg (λx=>h x.2),Rat.zero_add]
def aC4 (n:Nat)(V:List (List Rat)):Prop:=∀ c:Nat->Rat,(∀ i,i<n->aW (λj=>c j*(V.getD j []).getD i 0) V.length=0)->∀ j,j<V.length->c j=0
theorem am2 {V:List (List Rat)}{w:List Rat}{j:Nat}(hj:j<V.length):(V++[w]).getD j []=V.getD j []:=by
 rw[gI,List.getElem?_append_left hj,gI]
theorem am3 {V:List (List Rat)}{w:List Rat}:(V++[w]).getD V.length []=w:=by
 rw[gI,List.getElem?_append_right (Nat.le_refl _),Nat.sub_self];rfl
theorem NF {n:Nat}{V:List (List Rat)}(c:Nat->Rat):∀ t,t<=V.length->bK n V λi=>aW (λj=>c j*(V.getD j []).getD i 0) t
 | 0,_=>.zero λ_ _=>rfl
 | t+1,h=>.add (c t) (getD_mem (by omega) []) (NF c t (by omega)) λi _=>rfl
theorem aC4.grow {n:Nat}{V:List (List Rat)}{w:List Rat}(h:aC4 n V)(hn:¬ bK n V (vf w)):aC4 n (V++[w]):=λc hc=>by
 have hc2:∀ i,i<n->aW (λj=>c j*(V.getD j []).getD i 0) V.length+c V.length*w.getD i 0=0:=λi hi=>by
  have h1:=hc i hi;rw[iU,jL] at h1;have h2:aW (λj=>c j*((V++[w]).getD j []).getD i 0) V.length+c V.length*((V++[w]).getD V.length []).getD i 0=0:=h1;rw[am3,aJ (g:=λj=>c j*(V.getD j []).getD i 0) λj hj=>by rw[am2 hj]] at h2
  exact h2
 have h0:c V.length=0:=Decidable.byContradiction λhne=>hn (((NF c V.length (Nat.le_refl _)).smul (-(1 / c V.length))).congr λi hi=>by
  have h2:=hc2 i hi;show w.getD i 0 = -(1 / c V.length)*aW (λj=>c j*(V.getD j []).getD i 0) V.length
  generalize aW (λj=>c j*(V.getD j []).getD i 0) V.length=X at *;generalize c V.length=Y at *;have e:X = -(Y*w.getD i 0):=by grind
  rw[e];grind)
 intro j hj;rw[iU,jL] at hj;rcases Nat.lt_or_ge j V.length with hl|hl
 .exact h c (λi hi=>by have:=hc2 i hi;rwa [h0,Rat.zero_mul,Rat.add_zero] at this) j hl
 .obtain rfl:j=V.length:=by omega
  exact h0
theorem NG:∀ {i:Nat},i<=C.length->∀ u,u ∈ eU f C i->u ∈ C.take i
 | 0,_,u,h=>by cases h
 | i + 1, hi, u, hu => by
  rw[oZ [] hi];cases h:bg (gX f C i) (bU f C (C.getD i [])) with
  | true =>
   rw[P9 h] at hu;rcases rD hu with hu|hu
   .exact List.mem_append.2 (.inl (NG (by omega) u hu))
   .exact List.mem_append.2 (.inr hu)
  | false=>rw[Qa h] at hu;exact List.mem_append.2 (.inl (NG (by omega) u hu))
theorem Yb (h1:1<=B)(hf:∀ w,sz (f w)<=B){i:Nat}(hi:i<=C.length):∀ v,v ∈ (eU f C i).map (bU f C)->bK C.length (lu (gX f C i)) (vf v):=λv hv=>by
 obtain⟨u,hu,rfl⟩:=jY hv;have h:=(H9 (n:=C.length) h1 ((C.take i).map (bU f C)) (λv hv=>by obtain⟨u,_,rfl⟩:=jY hv;exact dD ..) λv hv=>by
  obtain⟨u,hu,rfl⟩:=jY hv;exact wu h1 hf u).2.1
 exact h.kept _ (List.mem_map.2 ⟨u,NG hi u hu,rfl⟩)
theorem aI4 (h1:1<=B)(hf:∀ w,sz (f w)<=B):∀ {i:Nat},i<=C.length->Ns C.length (gX f C i) ((eU f C i).map (bU f C))/\aC4 C.length ((eU f C i).map (bU f C))
 | 0,_=>⟨Ns.nil,λ_ _ j hj=>absurd hj (Nat.not_lt_zero _)⟩
 | i + 1, hi => by
  obtain⟨a,b⟩:=aI4 h1 hf (i:=i) (by omega)
  have hl:(bU f C (C.getD i [])).length=C.length:=dD ..;have sp:=Je (C:=C) h1 hf i;cases h:bg (gX f C i) (bU f C (C.getD i [])) with
  | false=>rw[Qa h,aI3 hi h];exact⟨a,b⟩
  | true =>
   rw[P9 h,aI2 hi h,List.map_append,List.map_singleton];refine⟨a.grow hl,b.grow λhs=>?_⟩;rw[(Bv sp.ech hl).2 (hs.trans (Yb h1 hf (by omega)))] at h
   cases h
theorem Qc (hj:i<K.length):(K.map (bU f C)).getD i []=bU f C (K.getD i []):=by
 rw[gI,List.getElem?_map,kL hj,gI,kL hj];rfl
theorem am4 (h1:1<=B)(hf:∀ w,sz (f w)<=B)(c3:C.length<=3)(hb:∀ w,IB 7 (3888*1080 ^ 5) (f w))(hg:bg (gX f C C.length) (sO f C u l)=false):∀ j,j<(gX f C C.length).length->sz ((bZ (gX f C C.length) (sO f C u l)).getD j 0)<=6:=by
 obtain⟨yb,ind⟩:=aI4 (C:=C) h1 hf (Nat.le_refl _);have sp:=Je (C:=C) h1 hf C.length;have kp:=Yb (C:=C) h1 hf (Nat.le_refl _);have hbl:=Dw (f:=f) (C:=C) (Nat.le_refl C.length);have hle:=Gn (f:=f) (C:=C) (i:=C.length);have fnd:=λi (hi:i<C.length)=>yb.find (w:=sO f C u l) (dD ..) hg hi;rw[dD] at fnd;have bl:=λ(u:List Int) (j:Nat)=>Qb (C:=C) (P:=IB 7 (3888*1080 ^ 5)) IB.zero hb u j;have piv:∀ j,j<(gX f C C.length).length->((gX f C C.length).getD j default).p<C.length:=λj hj=>(sp.ech.piv _ (rq hj)).1;refine aO4 (n:=(gX f C C.length).length) (R:=λi j=>(bU f C ((eU f C C.length).getD i [])).getD ((gX f C C.length).getD j default).p 0) (v:=λj=>(sO f C u l).getD ((gX f C C.length).getD j default).p 0) (c:=λj=>(bZ (gX f C C.length) (sO f C u l)).getD j 0) (by omega)
  (λc hc i hi=>?_) (λi j=>bl _ _) (λj=>bl _ _) (λj hj=>?_)
 .have hs:=(NF (n:=C.length) c _ (Nat.le_refl ((eU f C C.length).map (bU f C)).length)).trans kp;have hz:=Ip.indep sp.ech hs λr hr=>by
   obtain⟨q,hq,e⟩:=List.mem_iff_getElem.1 hr;have h2:=hc q hq;have er:(gX f C C.length).getD q default=r:=by rw[gI,kL hq,Option.getD_some,e]
   rw[er] at h2;refine Eq.trans ?_ h2;rw[dD,hbl];exact aJ λt ht=>by rw[Qc (by omega)]
  exact ind c hz i (by rw[dD];omega)
 .show (sO f C u l).getD _ 0=_
  rw[fnd _ (piv j hj),hbl];exact aJ λt ht=>by rw[Qc (by omega)]
theorem aC5 (h1:1<=B)(b6:B<=6)(hf:∀ w,sz (f w)<=B)(c3:C.length<=3)(hb:∀ w,IB 7 (3888*1080 ^ 5) (f w))(hg:∀ u l,u ∈ eU f C C.length->1<=l->l<=s->bg (gX f C C.length) (sO f C u l)=false):(Ya s f C).Oi:=by
 have hle:=Gn (f:=f) (C:=C) (i:=C.length);refine⟨by show (eU f C C.length).length<=6;omega,λq hq=>?_,λq hq=>?_,λt i j=>?_⟩
 .obtain⟨u,_,rfl⟩:=jY hq;unfold Gm
  split
  .rw[Ld];decide
  .rw[fK];decide
 .obtain⟨u,_,rfl⟩:=jY hq;have:=hf u;omega
 .show sz (jd (vF f C _ _ s _) t i j)<=24
  rw[UO]
  split
  .rename_i h;have:=am4 h1 hf c3 hb (hg ((eU f C C.length).getD i []) (t+1) (getD_mem h.1 []) (by omega) (by omega)) j h.2.2
   omega
  .rw[fK];decide
end
def Yc (c:List Int->Int)(l:List (List Int)):Prop:=∀ p q,p<=q->q<l.length->c (l.getD q [])<0->c (l.getD p [])<0
def JX (c:List Int->Int)(l:List (List Int)):Nat:=l.findIdx λx=>decide (0<=c x)
section
variable {c:List Int->Int}{l:List (List Int)}{i k n q:Nat}{w:List Int}
theorem Kq (hi:i<=l.length)(h1:∀ p,p<i->c (l.getD p [])<0)(h2:i<l.length->0<=c (l.getD i [])):JX c l=i:=by
 unfold JX;rcases Nat.lt_or_ge i l.length with h|h
 .refine (List.findIdx_eq h).2 ⟨?_,λj hj=>?_⟩
  .have:=h2 h;rw[gI,kL h] at this;exact decide_eq_true this
  .have:=h1 j hj;rw[gI,kL (by omega)] at this
   exact decide_eq_false (by have h3:c l[j]<0:=this;omega)
 .obtain rfl:i=l.length:=by omega
  refine List.findIdx_eq_length.2 λx hx=>?_;obtain⟨j,hj,e⟩:=List.mem_iff_getElem.1 hx;have:=h1 j hj;rw[gI,kL hj,Option.getD_some,e] at this;exact decide_eq_false (by omega)
theorem NH (ho:l.Pairwise λa b=>mY a b<0){p:Nat}(hp:p<q)(hq:q<l.length):mY (l.getD p []) (l.getD q [])<0:=by
 have h:=List.pairwise_iff_getElem.1 ho p q (by omega) hq hp
 rw[gI,kL (by omega),gI,kL hq]
 exact h
theorem am5 (ho:l.Pairwise λa b=>mY a b<0)(w:List Int):Yc (λx=>mY x w) l:=λp q hp hq h=>by
 rcases Nat.lt_or_ge p q with c|c
 .have:=NH ho c hq;have h:mY (l.getD q []) w<0:=h;exact yc this (by omega)
 .obtain rfl:p=q:=by omega
  exact h
theorem Ie (hw:w ∈ l):l.idxOf w<l.length/\l.getD (l.idxOf w) []=w:=by
 have h:=List.idxOf_lt_length_of_mem hw;exact⟨h,by rw[gI,kL h,Option.getD_some,List.getElem_idxOf h]⟩
theorem am6 (ho:l.Pairwise λa b=>mY a b<0)(hw:w ∈ l):JX (λx=>mY x w) l=l.idxOf w:=by
 obtain⟨h1,h2⟩:=Ie hw;refine Kq (Nat.le_of_lt h1) (λp hp=>?_) λ_=>?_
 .have:=NH ho hp h1;rw[h2] at this;exact this
 .show 0<=mY (l.getD (l.idxOf w) []) w
  rw[h2,xA];exact Int.le_refl _
theorem am7 (ho:l.Pairwise λa b=>mY a b<0)(m:Int):Yc (λx=>(x.length:Int)-m) l:=λp q hp hq h=>by
 rcases Nat.lt_or_ge p q with c|c
 .have:=Hg (Int.le_of_lt (NH ho c hq));show ((l.getD p []).length:Int)-m<0
  have h:((l.getD q []).length:Int)-m<0:=h;omega
 .obtain rfl:p=q:=by omega
  exact h
theorem UQ:∀ n,(pO k n).Pairwise λa b=>mY a b<0
 | 0=>List.pairwise_singleton ..
 | n+1=>by
  rw[pO];refine List.pairwise_flatMap.2 ⟨λw _=>TP k w,(UQ n).imp λ{a b} h x hx y hy=>?_⟩;obtain⟨s,_,rfl⟩:=rf.1 hx;obtain⟨t,_,rfl⟩:=rf.1 hy;exact JE h
theorem Et:∀ n,(ah k n).Pairwise λa b=>mY a b<0
 | 0=>List.pairwise_singleton ..
 | n + 1 => by
  rw[ah];exact List.pairwise_append.2 ⟨Et n,UQ (n+1),λa ha b hb=>Bq (by
   have h1:=(bW.1 ha).2;have h2:=(zh.1 hb).2;omega)⟩
theorem WL (h:q<=n):∃ r,ah k n=ah k q++r/\∀ w,w ∈ r->q<w.length:=by
 obtain⟨d,rfl⟩:∃ d,n=q+d:=⟨n-q,by omega⟩
 clear h
 induction d with
 | zero=>exact⟨[],(List.append_nil _).symm,λw hw=>by cases hw⟩
 | succ d ih =>
  obtain⟨r,e,hr⟩:=ih;refine⟨r++pO k (q+d+1),?_,λw hw=>?_⟩
  .rw[show q+(d+1)=q+d+1 from rfl,ah,e,List.append_assoc]
  .rcases rD hw with hw|hw
   .exact hr w hw
   .have:=(zh.1 hw).2;omega
theorem tY (h:q<=n):JX (λx=>(x.length:Int)-((q+1:Nat):Int)) (ah k n)=(ah k q).length/\(ah k q).length<=(ah k n).length/\(ah k n).take (ah k q).length=ah k q:=by
 obtain⟨r,e,hr⟩:=WL (k:=k) h;refine⟨Kq (by rw[e,iU];omega) (λp hp=>?_) λhlt=>?_,by rw[e,iU];omega,by rw[e,List.take_left'];rfl⟩
 .have:((ah k n).getD p []).length<=q:=by
   rw[e,gI,List.getElem?_append_left hp,<- gI];exact (bW.1 (getD_mem hp [])).2
  show (((ah k n).getD p []).length:Int)-((q+1:Nat):Int)<0
  omega
 .have:q<((ah k n).getD (ah k q).length []).length:=by
   rw[e,iU] at hlt;rw[e,gI,List.getElem?_append_right (Nat.le_refl _),Nat.sub_self,<- gI];exact hr _ (getD_mem (by omega) [])
  show 0<=(((ah k n).getD (ah k q).length []).length:Int)-((q+1:Nat):Int)
  omega
theorem wz:(dh k w).length=k:=by simp[dh]
theorem Qd {j:Nat}(h:j<k):(dh k w).take (j+1)=(dh k w).take j++[w++[((j+1:Nat):Int)]]:=by
 rw[oZ [] (by rw[wz];exact h)]
 congr 2;unfold dh;rw[gI,List.getElem?_map,List.getElem?_range h];rfl
theorem UR {A B:List (List Int)}:vI k (A++B)=vI k A++B.flatMap (dh k):=by
 unfold vI;rw[List.flatMap_append,List.cons_append]
theorem BL:∀ n,vI k (ah k n)=ah k (n+1)
 | 0=>by
  show []::[([]:List Int)].flatMap (dh k)=[[]]++([[]]:List (List Int)).flatMap (dh k)
  rfl
 | n+1=>by rw[ah,UR,BL n];rfl
theorem Gp:∀ A:List (List Int),(vI k A).length=1+k*A.length
 | []=>by show 1=_;rw[List.length_nil,Nat.mul_zero]
 | w::A=>by
  have h:=Gp A;unfold vI at h ⊢;rw[List.length_cons] at h ⊢;rw[List.flatMap_cons,iU,wz,List.length_cons,Nat.mul_succ];omega
theorem Qe {A:List (List Int)}(h:i<=A.length):vI k (A.take i)=(vI k A).take (1+k*i):=by
 have e:vI k A=vI k (A.take i)++(A.drop i).flatMap (dh k):=by rw[<- UR,List.take_append_drop]
 have hl:(vI k (A.take i)).length=1+k*i:=by rw[Gp,List.length_take,Nat.min_eq_left h]
 rw[e,List.take_left' hl]
theorem am8 (hi:i<(ah k n).length):(ah k (n+1)).take (1+k*(i+1))=(ah k (n+1)).take (1+k*i)++dh k ((ah k (n+1)).getD i []):=by
 rw[<- BL,<- Qe (by omega),<- Qe (by omega),oZ [] hi,Nj,BL,Nz hi]
theorem aC6:(ah k (n+1)).length=1+k*(ah k n).length:=by rw[<- BL,Gp]
theorem Qg (hi:i<(ah k n).length):((ah k (n+1)).getD i []).length<=n:=by
 rw[Nz hi];exact (bW.1 (getD_mem hi [])).2
theorem am9 (hi:(ah k n).length<=i)(h:i<(ah k (n+1)).length):((ah k (n+1)).getD i []).length=n+1:=by
 rw[ah,iU] at h;rw[ah,gI,List.getElem?_append_right hi,<- gI];exact (zh.1 (getD_mem (by omega) [])).2
theorem Yd:1<=(ah k n).length:=by
 have:=List.length_pos_of_mem (bW (k:=k) (n:=n) (w:=[]) |>.2 ⟨λx hx=>(by cases hx),Nat.zero_le _⟩)
 exact this

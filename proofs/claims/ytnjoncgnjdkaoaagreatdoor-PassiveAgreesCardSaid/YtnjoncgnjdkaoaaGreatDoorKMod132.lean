/-
  M, chapters 29 and 30: searches in lists of words; all words of at most a length, one behind the other.
-/
import Derived.Test.YtnjoncgnjdkaoaaGreatDoorKMod130
set_option linter.unusedVariables false
set_option linter.unusedSimpArgs false
namespace Go.AL
open Go Go.BigFrame
def aC (F:List (List Int))(vs:List Rat)(w:List Int):Rat:=vs.getD (F.idxOf w) 0
def iF (f:List Int->Rat)(C:List (List Int))(i:Nat):List bW:=NV ((C.take i).map (fV f C))
def eY (f:List Int->Rat)(C:List (List Int)):Nat->List (List Int)
 | 0=>[]
 | i+1=>if bM (iF f C i) (fV f C (C.getD i []))=true then eY f C i++[C.getD i []] else eY f C i
def uj (f:List Int->Rat)(C:List (List Int))(u:List Int)(l:Nat):List Rat:=fV f C (u++[(l:Int)])
def RF (fr l:Nat)(cs:List Rat)(t:Nat):List bH:=if cs.getD t 0=0 then [] else [⟨fr,l,t,cs.getD t 0⟩]
def DW (fr l:Nat)(cs:List Rat)(i:Nat):List bH:=(List.range i).flatMap (RF fr l cs)
def Ae (f:List Int->Rat)(C:List (List Int))(rs:List bW)(fr:Nat)(u:List Int)(n:Nat):List bH:=(List.range n).flatMap λl=>DW fr (l+1) (bY rs (uj f C u (l+1))) rs.length
def wC (f:List Int->Rat)(C:List (List Int))(rs:List bW)(K:List (List Int))(s n:Nat):List bH:=(List.range n).flatMap λi=>Ae f C rs i (K.getD i []) s
def Gy (u:List Int):Rat:=if u.length=0 then 1 else 0
def NY (s:Nat)(f:List Int->Rat)(C:List (List Int)):Au :=
 ⟨s,(eY f C C.length).length,(eY f C C.length).map Gy,(eY f C C.length).map f,wC f C (iF f C C.length) (eY f C C.length) s (eY f C C.length).length⟩
def RcQ (s:Nat)(f:List Int->Rat)(C F:List (List Int)):Option Au->Prop
 | none=>(∃ u l,u ∈ eY f C C.length/\1<=l/\l<=s/\bM (iF f C C.length) (uj f C u l)=true) \/ ∃ w,w ∈ F/\iD (NY s f C) w≠f w
 | some a=>a=NY s f C/\(∀ u l,u ∈ eY f C C.length->1<=l->l<=s->bM (iF f C C.length) (uj f C u l)=false)/\∀ w,w ∈ F->iD a w=f w
section
variable {f:List Int->Rat}{C K:List (List Int)}{i s n l B fr:Nat}{u:List Int}{rs:List bW}{cs:List Rat}{x:bH}
theorem rH {α:Type}{l:List α}{i:Nat}(d:α)(hi:i<l.length):l.take (i+1)=l.take i++[l.getD i d]:=by
 rw[List.take_succ_eq_append_getElem hi,ig,lu hi];rfl
theorem Jp {α:Type}{g:Nat->List α}:(List.range (n+1)).flatMap g=(List.range n).flatMap g++g n:=by
 rw[List.range_succ,List.flatMap_append];simp
theorem NZ (hi:i<C.length):iF f C (i+1)=wB (iF f C i) (fV f C (C.getD i [])):=by
 unfold iF;rw[rH [] hi,List.map_append,List.map_singleton,NW]
theorem aL8 (hi:i<C.length)(h:bM (iF f C i) (fV f C (C.getD i []))=true):iF f C (i+1)=iF f C i++[newR (iF f C i) (fV f C (C.getD i []))]:=by
 rw[NZ hi];exact if_pos h
theorem aL9 (hi:i<C.length)(h:bM (iF f C i) (fV f C (C.getD i []))=false):iF f C (i+1)=iF f C i:=by
 rw[NZ hi];exact if_neg (by rw[h];exact Bool.false_ne_true)
theorem Qk (h:bM (iF f C i) (fV f C (C.getD i []))=true):eY f C (i+1)=eY f C i++[C.getD i []]:=by rw[eY,if_pos h]
theorem Ql (h:bM (iF f C i) (fV f C (C.getD i []))=false):eY f C (i+1)=eY f C i:=by rw[eY,if_neg (by rw[h];exact Bool.false_ne_true)]
theorem DL:∀ {i:Nat},i<=C.length->(eY f C i).length=(iF f C i).length
 | 0,_=>rfl
 | i+1,hi=>by
  cases h:bM (iF f C i) (fV f C (C.getD i [])) with
  | true=>rw[Qk h,aL8 hi h,jG,jG,DL (by omega)];rfl
  | false=>rw[Ql h,aL9 hi h,DL (by omega)]
theorem RG:∀ {i:Nat},i<=C.length->∀ u,u ∈ eY f C i->u ∈ C
 | 0,_,u,h=>by cases h
 | i + 1, hi, u, hu => by
  cases h:bM (iF f C i) (fV f C (C.getD i [])) with
  | true =>
   rw[Qk h] at hu;rcases ul hu with hu|hu
   .exact RG (by omega) u hu
   .rw[lW hu];exact getD_mem hi []
  | false=>rw[Ql h] at hu;exact RG (by omega) u hu
theorem EM:∀ {i:Nat},(eY f C i).length<=i
 | 0=>Nat.le_refl _
 | i+1=>by
  have h:=EM (i:=i);rw[eY]
  split
  .rw[jG,oU];omega
  .omega
theorem Qm {P:Rat->Prop}(h0:P 0)(hf:∀ w,P (f w))(u:List Int)(j:Nat):P ((fV f C u).getD j 0):=by
 rcases Nat.lt_or_ge j C.length with h|h
 .rw[Qi h];exact hf _
 .rw[wX (by rw[show (fV f C u).length=C.length from dJ ..];exact h)];exact h0
theorem yR (h1:1<=B)(hf:∀ w,sz (f w)<=B)(u:List Int)(j:Nat):sz ((fV f C u).getD j 0)<=B:=Qm (P:=λq=>sz q<=B) (by rw[gm];exact h1) hf u j
theorem N7 (h1:1<=B)(hf:∀ w,sz (f w)<=B)(i:Nat):uK C.length B (iF f C i) :=
 (UL h1 _ (λv hv=>by obtain⟨u,_,rfl⟩:=mM hv;exact dJ ..) λv hv=>by
  obtain⟨u,hu,rfl⟩:=mM hv;exact yR h1 hf u).1
theorem FH:DW fr l cs (i+1)=DW fr l cs i++RF fr l cs i:=Jp
theorem Jq:Ae f C rs fr u (n+1)=Ae f C rs fr u n++DW fr (n+1) (bY rs (uj f C u (n+1))) rs.length:=Jp
theorem FI:wC f C rs K s (n+1)=wC f C rs K s n++Ae f C rs n (K.getD n []) s:=Jp
theorem N8:∀ {i:Nat},(DW fr l cs i).length<=i
 | 0=>Nat.le_refl _
 | i+1=>by
  have h:=N8 (i:=i);rw[FH,jG,RF]
  split
  .exact Nat.le_succ_of_le h
  .show _+1<=_;omega
theorem N9:∀ {n:Nat},(Ae f C rs fr u n).length<=n*rs.length
 | 0=>Nat.zero_le _
 | n+1=>by
  have h:=N9 (n:=n);have h2:=N8 (fr:=fr) (l:=n+1) (cs:=bY rs (uj f C u (n+1))) (i:=rs.length);rw[Jq,jG,Nat.succ_mul];omega
theorem Oa:∀ {n:Nat},(wC f C rs K s n).length<=n*(s*rs.length)
 | 0=>Nat.zero_le _
 | n+1=>by
  have h:=Oa (n:=n);have h2:=N9 (f:=f) (C:=C) (rs:=rs) (fr:=n) (u:=K.getD n []) (n:=s);rw[FI,jG,Nat.succ_mul];omega
theorem UQ (hx:x ∈ wC f C rs K s n):x.f<n/\1<=x.l/\x.l<=s/\x.t<rs.length/\x.q=(bY rs (uj f C (K.getD x.f []) x.l)).getD x.t 0:=by
 unfold wC Ae DW at hx;obtain⟨i,hi,hx⟩:=List.mem_flatMap.1 hx;obtain⟨l,hl,hx⟩:=List.mem_flatMap.1 hx;obtain⟨t,ht,hx⟩:=List.mem_flatMap.1 hx;have hi:=List.mem_range.1 hi;have hl:=List.mem_range.1 hl;have ht:=List.mem_range.1 ht;unfold RF at hx
 split at hx
 .cases hx
 .rw[lW hx];exact⟨hi,by show 1<=l+1;omega,by show l+1<=s;omega,ht,rfl⟩
theorem ao0 (h1:1<=s):(NY s f C).Ok:=⟨h1,dJ ..,dJ ..,λx hx=>by
 obtain⟨a,b,c,d,_⟩:=UQ hx;rw[<- DL (Nat.le_refl _)] at d;exact⟨a,d,b,c⟩⟩
theorem ao1 (h1:1<=B)(c3:C.length<=3)(s2:s<=2)(hf:∀ w,sz (f w)<=B):(NY s f C).Sz (64*(B+1)) 18:=by
 have hle:=EM (f:=f) (C:=C) (i:=C.length);have hbl:=DL (f:=f) (C:=C) (Nat.le_refl C.length);refine⟨λq hq=>?_,λq hq=>?_,λx hx=>?_,?_⟩
 .obtain⟨u,_,rfl⟩:=mM hq;unfold Gy
  split
  .rw[LM];omega
  .rw[gm];omega
 .obtain⟨u,hu,rfl⟩:=mM hq;have:=hf u;omega
 .obtain⟨a,b,c,d,e⟩:=UQ hx;rw[e];have sp:=N7 (C:=C) h1 hf C.length;have h:=sp.sz.ou h1 (yR (C:=C) h1 hf ((eY f C C.length).getD x.f []++[(x.l:Int)])) (iF f C C.length).length x.t;have h4:4 ^ (iF f C C.length).length<=4 ^ 3:=Nat.pow_le_pow_right (by decide) (by omega)
  have h5:=Nat.mul_le_mul_right (B+1) h4;rw[show (4:Nat) ^ 3=64 from rfl] at h5
  show sz ((ou _ _ _).getD x.t 0)<=_
  unfold uj;omega
 .have h:=Oa (f:=f) (C:=C) (rs:=iF f C C.length) (K:=eY f C C.length) (s:=s) (n:=(eY f C C.length).length);have a:s*(iF f C C.length).length<=2*3:=Nat.mul_le_mul s2 (by omega)
  have b:=Nat.mul_le_mul (show (eY f C C.length).length<=3 by omega) a
  exact Nat.le_trans h b
theorem UR {α:Type}{g:α->Rat}:∀ (a b:List α),jR g (a++b)=jR g a+jR g b
 | [],b=>by rw[List.nil_append,jR,Rat.zero_add]
 | x::a,b=>by rw[List.cons_append,jR,jR,UR a b,Rat.add_assoc]
theorem RH {a b:List bH}{s i j:Nat}:iU (a++b) s i j=iU a s i j+iU b s i j:=UR a b
theorem ao2 {s i j:Nat}:iU [] s i j=0:=rfl
theorem ao3 {s i j t:Nat}:iU (RF fr l cs t) s i j=if fr=i/\l=s+1/\t=j then cs.getD t 0 else 0:=by
 unfold RF
 split
 .rename_i h;rw[h,ao2];split <;> rfl
 .show (if fr=i/\l=s+1/\t=j then cs.getD t 0 else 0)+0=_
  rw[Rat.add_zero]
theorem UU {s i j:Nat}:∀ {n:Nat},iU (DW fr l cs n) s i j=if fr=i/\l=s+1/\j<n then cs.getD j 0 else 0
 | 0=>by rw[if_neg (by omega)];rfl
 | n + 1 => by
  rw[FH,RH,UU (n:=n),ao3];by_cases h:fr=i/\l=s+1
  .rcases Nat.lt_trichotomy j n with c|c|c
   .rw[if_pos ⟨h.1,h.2,c⟩,if_neg (by omega),if_pos ⟨h.1,h.2,by omega⟩,Rat.add_zero]
   .subst c;rw[if_neg (by omega),if_pos ⟨h.1,h.2,rfl⟩,if_pos ⟨h.1,h.2,by omega⟩,Rat.zero_add]
   .rw[if_neg (by omega),if_neg (by omega),if_neg (by omega),Rat.zero_add]
  .rw[if_neg (λx=>h ⟨x.1,x.2.1⟩),if_neg (λx=>h ⟨x.1,x.2.1⟩),if_neg (λx=>h ⟨x.1,x.2.1⟩),Rat.zero_add]
theorem UW {s i j:Nat}:∀ {n:Nat},iU (Ae f C rs fr u n) s i j=if fr=i/\s<n/\j<rs.length then (bY rs (uj f C u (s+1))).getD j 0 else 0
 | 0=>by rw[if_neg (by omega)];rfl
 | n + 1 => by
  rw[Jq,RH,UW (n:=n),UU];by_cases h:fr=i/\j<rs.length
  .rcases Nat.lt_trichotomy s n with c|c|c
   .rw[if_pos ⟨h.1,c,h.2⟩,if_neg (by omega),if_pos ⟨h.1,by omega,h.2⟩,Rat.add_zero]
   .subst c;rw[if_neg (by omega),if_pos ⟨h.1,rfl,h.2⟩,if_pos ⟨h.1,by omega,h.2⟩,Rat.zero_add]
   .rw[if_neg (by omega),if_neg (by omega),if_neg (by omega),Rat.zero_add]
  .rw[if_neg (λx=>h ⟨x.1,x.2.2⟩),if_neg (λx=>h ⟨x.1,x.2.2⟩),if_neg (λx=>h ⟨x.1,x.2.2⟩),Rat.zero_add]
theorem UX {S s i j:Nat}:∀ {n:Nat},iU (wC f C rs K S n) s i j=if i<n/\s<S/\j<rs.length then (bY rs (uj f C (K.getD i []) (s+1))).getD j 0 else 0
 | 0=>by rw[if_neg (by omega)];rfl
 | n + 1 => by
  rw[FI,RH,UX (n:=n),UW];by_cases h:s<S/\j<rs.length
  .rcases Nat.lt_trichotomy i n with c|c|c
   .rw[if_pos ⟨c,h⟩,if_neg (by omega),if_pos ⟨by omega,h⟩,Rat.add_zero]
   .subst c;rw[if_neg (by omega),if_pos ⟨rfl,h⟩,if_pos ⟨by omega,h⟩,Rat.zero_add]
   .rw[if_neg (by omega),if_neg (by omega),if_neg (by omega),Rat.zero_add]
  .rw[if_neg (λx=>h x.2),if_neg (λx=>h x.2),if_neg (λx=>h x.2),Rat.zero_add]
def aF1 (n:Nat)(V:List (List Rat)):Prop:=∀ c:Nat->Rat,(∀ i,i<n->aX (λj=>c j*(V.getD j []).getD i 0) V.length=0)->∀ j,j<V.length->c j=0
theorem ao4 {V:List (List Rat)}{w:List Rat}{j:Nat}(hj:j<V.length):(V++[w]).getD j []=V.getD j []:=by
 rw[ig,List.getElem?_append_left hj,ig]
theorem ao5 {V:List (List Rat)}{w:List Rat}:(V++[w]).getD V.length []=w:=by
 rw[ig,List.getElem?_append_right (Nat.le_refl _),Nat.sub_self];rfl
theorem Ob {n:Nat}{V:List (List Rat)}(c:Nat->Rat):∀ t,t<=V.length->bU n V λi=>aX (λj=>c j*(V.getD j []).getD i 0) t
 | 0,_=>.zero λ_ _=>rfl
 | t+1,h=>.add (c t) (getD_mem (by omega) []) (Ob c t (by omega)) λi _=>rfl
theorem aF1.grow {n:Nat}{V:List (List Rat)}{w:List Rat}(h:aF1 n V)(hn:¬ bU n V (vf w)):aF1 n (V++[w]):=λc hc=>by
 have hc2:∀ i,i<n->aX (λj=>c j*(V.getD j []).getD i 0) V.length+c V.length*w.getD i 0=0:=λi hi=>by
  have h1:=hc i hi;rw[jG,oU] at h1;have h2:aX (λj=>c j*((V++[w]).getD j []).getD i 0) V.length+c V.length*((V++[w]).getD V.length []).getD i 0=0:=h1;rw[ao5,aN (g:=λj=>c j*(V.getD j []).getD i 0) λj hj=>by rw[ao4 hj]] at h2
  exact h2
 have h0:c V.length=0:=Decidable.byContradiction λhne=>hn (((Ob c V.length (Nat.le_refl _)).smul (-(1 / c V.length))).congr λi hi=>by
  have h2:=hc2 i hi;show w.getD i 0 = -(1 / c V.length)*aX (λj=>c j*(V.getD j []).getD i 0) V.length
  generalize aX (λj=>c j*(V.getD j []).getD i 0) V.length=X at *;generalize c V.length=Y at *;have e:X = -(Y*w.getD i 0):=by grind
  rw[e];grind)
 intro j hj;rw[jG,oU] at hj;rcases Nat.lt_or_ge j V.length with hl|hl
 .exact h c (λi hi=>by have:=hc2 i hi;rwa [h0,Rat.zero_mul,Rat.add_zero] at this) j hl
 .obtain rfl:j=V.length:=by omega
  exact h0
theorem Oc:∀ {i:Nat},i<=C.length->∀ u,u ∈ eY f C i->u ∈ C.take i
 | 0,_,u,h=>by cases h
 | i + 1, hi, u, hu => by
  rw[rH [] hi];cases h:bM (iF f C i) (fV f C (C.getD i [])) with
  | true =>
   rw[Qk h] at hu;rcases ul hu with hu|hu
   .exact List.mem_append.2 (.inl (Oc (by omega) u hu))
   .exact List.mem_append.2 (.inr hu)
  | false=>rw[Ql h] at hu;exact List.mem_append.2 (.inl (Oc (by omega) u hu))
theorem Ym (h1:1<=B)(hf:∀ w,sz (f w)<=B){i:Nat}(hi:i<=C.length):∀ v,v ∈ (eY f C i).map (fV f C)->bU C.length (oG (iF f C i)) (vf v):=λv hv=>by
 obtain⟨u,hu,rfl⟩:=mM hv;have h:=(UL (n:=C.length) h1 ((C.take i).map (fV f C)) (λv hv=>by obtain⟨u,_,rfl⟩:=mM hv;exact dJ ..) λv hv=>by
  obtain⟨u,hu,rfl⟩:=mM hv;exact yR h1 hf u).2.1
 exact h.kept _ (List.mem_map.2 ⟨u,Oc hi u hu,rfl⟩)
theorem aM0 (h1:1<=B)(hf:∀ w,sz (f w)<=B):∀ {i:Nat},i<=C.length->NQ C.length (iF f C i) ((eY f C i).map (fV f C))/\aF1 C.length ((eY f C i).map (fV f C))
 | 0,_=>⟨NQ.nil,λ_ _ j hj=>absurd hj (Nat.not_lt_zero _)⟩
 | i + 1, hi => by
  obtain⟨a,b⟩:=aM0 h1 hf (i:=i) (by omega)
  have hl:(fV f C (C.getD i [])).length=C.length:=dJ ..;have sp:=N7 (C:=C) h1 hf i;cases h:bM (iF f C i) (fV f C (C.getD i [])) with
  | false=>rw[Ql h,aL9 hi h];exact⟨a,b⟩
  | true =>
   rw[Qk h,aL8 hi h,List.map_append,List.map_singleton];refine⟨a.grow hl,b.grow λhs=>?_⟩;rw[(BM sp.ech hl).2 (hs.trans (Ym h1 hf (by omega)))] at h
   cases h
theorem Qn (hj:i<K.length):(K.map (fV f C)).getD i []=fV f C (K.getD i []):=by
 rw[ig,List.getElem?_map,lu hj,ig,lu hj];rfl
theorem ao6 (h1:1<=B)(hf:∀ w,sz (f w)<=B)(c3:C.length<=3)(hb:∀ w,IB 7 (3888*1080 ^ 5) (f w))(hg:bM (iF f C C.length) (uj f C u l)=false):∀ j,j<(iF f C C.length).length->sz ((bY (iF f C C.length) (uj f C u l)).getD j 0)<=6:=by
 obtain⟨yb,ind⟩:=aM0 (C:=C) h1 hf (Nat.le_refl _);have sp:=N7 (C:=C) h1 hf C.length;have kp:=Ym (C:=C) h1 hf (Nat.le_refl _);have hbl:=DL (f:=f) (C:=C) (Nat.le_refl C.length);have hle:=EM (f:=f) (C:=C) (i:=C.length);have fnd:=λi (hi:i<C.length)=>yb.find (w:=uj f C u l) (dJ ..) hg hi;rw[dJ] at fnd;have bl:=λ(u:List Int) (j:Nat)=>Qm (C:=C) (P:=IB 7 (3888*1080 ^ 5)) IB.zero hb u j;have piv:∀ j,j<(iF f C C.length).length->((iF f C C.length).getD j default).p<C.length:=λj hj=>(sp.ech.piv _ (BR hj)).1;refine aS5 (n:=(iF f C C.length).length) (R:=λi j=>(fV f C ((eY f C C.length).getD i [])).getD ((iF f C C.length).getD j default).p 0) (v:=λj=>(uj f C u l).getD ((iF f C C.length).getD j default).p 0) (c:=λj=>(bY (iF f C C.length) (uj f C u l)).getD j 0) (by omega)
  (λc hc i hi=>?_) (λi j=>bl _ _) (λj=>bl _ _) (λj hj=>?_)
 .have hs:=(Ob (n:=C.length) c _ (Nat.le_refl ((eY f C C.length).map (fV f C)).length)).trans kp;have hz:=JL.indep sp.ech hs λr hr=>by
   obtain⟨q,hq,e⟩:=List.mem_iff_getElem.1 hr;have h2:=hc q hq;have er:(iF f C C.length).getD q default=r:=by rw[ig,lu hq,Option.getD_some,e]
   rw[er] at h2;refine Eq.trans ?_ h2;rw[dJ,hbl];exact aN λt ht=>by rw[Qn (by omega)]
  exact ind c hz i (by rw[dJ];omega)
 .show (uj f C u l).getD _ 0=_
  rw[fnd _ (piv j hj),hbl];exact aN λt ht=>by rw[Qn (by omega)]
theorem Yn (h1:1<=B)(b6:B<=6)(hf:∀ w,sz (f w)<=B)(c3:C.length<=3)(hb:∀ w,IB 7 (3888*1080 ^ 5) (f w))(hg:∀ u l,u ∈ eY f C C.length->1<=l->l<=s->bM (iF f C C.length) (uj f C u l)=false):(NY s f C).Pj:=by
 have hle:=EM (f:=f) (C:=C) (i:=C.length);refine⟨by show (eY f C C.length).length<=6;omega,λq hq=>?_,λq hq=>?_,λt i j=>?_⟩
 .obtain⟨u,_,rfl⟩:=mM hq;unfold Gy
  split
  .rw[LM];decide
  .rw[gm];decide
 .obtain⟨u,_,rfl⟩:=mM hq;have:=hf u;omega
 .show sz (iU (wC f C _ _ s _) t i j)<=24
  rw[UX]
  split
  .rename_i h;have:=ao6 h1 hf c3 hb (hg ((eY f C C.length).getD i []) (t+1) (getD_mem h.1 []) (by omega) (by omega)) j h.2.2
   omega
  .rw[gm];decide
end
def Yo (c:List Int->Int)(l:List (List Int)):Prop:=∀ p q,p<=q->q<l.length->c (l.getD q [])<0->c (l.getD p [])<0
def Kr (c:List Int->Int)(l:List (List Int)):Nat:=l.findIdx λx=>decide (0<=c x)
section
variable {c:List Int->Int}{l:List (List Int)}{i k n q:Nat}{w:List Int}
theorem KN (hi:i<=l.length)(h1:∀ p,p<i->c (l.getD p [])<0)(h2:i<l.length->0<=c (l.getD i [])):Kr c l=i:=by
 unfold Kr;rcases Nat.lt_or_ge i l.length with h|h
 .refine (List.findIdx_eq h).2 ⟨?_,λj hj=>?_⟩
  .have:=h2 h;rw[ig,lu h] at this;exact decide_eq_true this
  .have:=h1 j hj;rw[ig,lu (by omega)] at this
   exact decide_eq_false (by have h3:c l[j]<0:=this;omega)
 .obtain rfl:i=l.length:=by omega
  refine List.findIdx_eq_length.2 λx hx=>?_;obtain⟨j,hj,e⟩:=List.mem_iff_getElem.1 hx;have:=h1 j hj;rw[ig,lu hj,Option.getD_some,e] at this;exact decide_eq_false (by omega)
theorem Oe (ho:l.Pairwise λa b=>nO a b<0){p:Nat}(hp:p<q)(hq:q<l.length):nO (l.getD p []) (l.getD q [])<0:=by
 have h:=List.pairwise_iff_getElem.1 ho p q (by omega) hq hp
 rw[ig,lu (by omega),ig,lu hq]
 exact h
theorem ao7 (ho:l.Pairwise λa b=>nO a b<0)(w:List Int):Yo (λx=>nO x w) l:=λp q hp hq h=>by
 rcases Nat.lt_or_ge p q with c|c
 .have:=Oe ho c hq;have h:nO (l.getD q []) w<0:=h;exact yJ this (by omega)
 .obtain rfl:p=q:=by omega
  exact h
theorem KO (hw:w ∈ l):l.idxOf w<l.length/\l.getD (l.idxOf w) []=w:=by
 have h:=List.idxOf_lt_length_of_mem hw;exact⟨h,by rw[ig,lu h,Option.getD_some,List.getElem_idxOf h]⟩
theorem ao8 (ho:l.Pairwise λa b=>nO a b<0)(hw:w ∈ l):Kr (λx=>nO x w) l=l.idxOf w:=by
 obtain⟨h1,h2⟩:=KO hw;refine KN (Nat.le_of_lt h1) (λp hp=>?_) λ_=>?_
 .have:=Oe ho hp h1;rw[h2] at this;exact this
 .show 0<=nO (l.getD (l.idxOf w) []) w
  rw[h2,xY];exact Int.le_refl _
theorem ao9 (ho:l.Pairwise λa b=>nO a b<0)(m:Int):Yo (λx=>(x.length:Int)-m) l:=λp q hp hq h=>by
 rcases Nat.lt_or_ge p q with c|c
 .have:=HY (Int.le_of_lt (Oe ho c hq));show ((l.getD p []).length:Int)-m<0
  have h:((l.getD q []).length:Int)-m<0:=h;omega
 .obtain rfl:p=q:=by omega
  exact h
theorem UY:∀ n,(qM k n).Pairwise λa b=>nO a b<0
 | 0=>List.pairwise_singleton ..
 | n+1=>by
  rw[qM];refine List.pairwise_flatMap.2 ⟨λw _=>TY k w,(UY n).imp λ{a b} h x hx y hy=>?_⟩;obtain⟨s,_,rfl⟩:=sH.1 hx;obtain⟨t,_,rfl⟩:=sH.1 hy;exact JP h
theorem BZ:∀ n,(ah k n).Pairwise λa b=>nO a b<0
 | 0=>List.pairwise_singleton ..
 | n + 1 => by
  rw[ah];exact List.pairwise_append.2 ⟨BZ n,UY (n+1),λa ha b hb=>BL (by
   have h1:=(gQ.1 ha).2;have h2:=(zQ.1 hb).2;omega)⟩
theorem WY (h:q<=n):∃ r,ah k n=ah k q++r/\∀ w,w ∈ r->q<w.length:=by
 obtain⟨d,rfl⟩:∃ d,n=q+d:=⟨n-q,by omega⟩
 clear h
 induction d with
 | zero=>exact⟨[],(List.append_nil _).symm,λw hw=>by cases hw⟩
 | succ d ih =>
  obtain⟨r,e,hr⟩:=ih;refine⟨r++qM k (q+d+1),?_,λw hw=>?_⟩
  .rw[show q+(d+1)=q+d+1 from rfl,ah,e,List.append_assoc]
  .rcases ul hw with hw|hw
   .exact hr w hw
   .have:=(zQ.1 hw).2;omega
theorem zU (h:q<=n):Kr (λx=>(x.length:Int)-((q+1:Nat):Int)) (ah k n)=(ah k q).length/\(ah k q).length<=(ah k n).length/\(ah k n).take (ah k q).length=ah k q:=by
 obtain⟨r,e,hr⟩:=WY (k:=k) h;refine⟨KN (by rw[e,jG];omega) (λp hp=>?_) λhlt=>?_,by rw[e,jG];omega,by rw[e,List.take_left'];rfl⟩
 .have:((ah k n).getD p []).length<=q:=by
   rw[e,ig,List.getElem?_append_left hp,<- ig];exact (gQ.1 (getD_mem hp [])).2
  show (((ah k n).getD p []).length:Int)-((q+1:Nat):Int)<0
  omega
 .have:q<((ah k n).getD (ah k q).length []).length:=by
   rw[e,jG] at hlt;rw[e,ig,List.getElem?_append_right (Nat.le_refl _),Nat.sub_self,<- ig];exact hr _ (getD_mem (by omega) [])
  show 0<=(((ah k n).getD (ah k q).length []).length:Int)-((q+1:Nat):Int)
  omega
theorem wZ:(cu k w).length=k:=by simp[cu]
theorem Qo {j:Nat}(h:j<k):(cu k w).take (j+1)=(cu k w).take j++[w++[((j+1:Nat):Int)]]:=by
 rw[rH [] (by rw[wZ];exact h)]
 congr 2;unfold cu;rw[ig,List.getElem?_map,List.getElem?_range h];rfl
theorem UZ {A B:List (List Int)}:wH k (A++B)=wH k A++B.flatMap (cu k):=by
 unfold wH;rw[List.flatMap_append,List.cons_append]
theorem Cb:∀ n,wH k (ah k n)=ah k (n+1)
 | 0=>by
  show []::[([]:List Int)].flatMap (cu k)=[[]]++([[]]:List (List Int)).flatMap (cu k)
  rfl
 | n+1=>by rw[ah,UZ,Cb n];rfl
theorem Gz:∀ A:List (List Int),(wH k A).length=1+k*A.length
 | []=>by show 1=_;rw[List.length_nil,Nat.mul_zero]
 | w::A=>by
  have h:=Gz A;unfold wH at h ⊢;rw[List.length_cons] at h ⊢;rw[List.flatMap_cons,jG,wZ,List.length_cons,Nat.mul_succ];omega
theorem Qp {A:List (List Int)}(h:i<=A.length):wH k (A.take i)=(wH k A).take (1+k*i):=by
 have e:wH k A=wH k (A.take i)++(A.drop i).flatMap (cu k):=by rw[<- UZ,List.take_append_drop]
 have hl:(wH k (A.take i)).length=1+k*i:=by rw[Gz,List.length_take,Nat.min_eq_left h]
 rw[e,List.take_left' hl]
theorem ap0 (hi:i<(ah k n).length):(ah k (n+1)).take (1+k*(i+1))=(ah k (n+1)).take (1+k*i)++cu k ((ah k (n+1)).getD i []):=by
 rw[<- Cb,<- Qp (by omega),<- Qp (by omega),rH [] hi,NP,Cb,UO hi]
theorem aF2:(ah k (n+1)).length=1+k*(ah k n).length:=by rw[<- Cb,Gz]
theorem Qq (hi:i<(ah k n).length):((ah k (n+1)).getD i []).length<=n:=by
 rw[UO hi];exact (gQ.1 (getD_mem hi [])).2
theorem ap1 (hi:(ah k n).length<=i)(h:i<(ah k (n+1)).length):((ah k (n+1)).getD i []).length=n+1:=by
 rw[ah,jG] at h;rw[ah,ig,List.getElem?_append_right hi,<- ig];exact (zQ.1 (getD_mem (by omega) [])).2
theorem Yp:1<=(ah k n).length:=by
 have:=List.length_pos_of_mem (gQ (k:=k) (n:=n) (w:=[]) |>.2 ⟨λx hx=>(by cases hx),Nat.zero_le _⟩)
 exact this

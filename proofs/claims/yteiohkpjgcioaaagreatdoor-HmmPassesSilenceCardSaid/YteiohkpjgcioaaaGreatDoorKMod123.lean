/-
  M, chapter 33: the model without its silent states is valid.
-/
import Derived.Test.YteiohkpjgcioaaaGreatDoorKNum12
set_option linter.unusedVariables false
set_option linter.unusedSimpArgs false
namespace Go.AL
open Go Go.BigFrame
section
variable {h:HM}{i j k n:Nat}{O u v:List Nat}{x y:List Rat × Rat}{φ ν:Nat->Rat}{c:Rat}
def thP (h:HM)(i:Nat)(l:List Rat)(p:Rat)(j:Nat):Rat:=l.getD j 0+p*Hw h i j
def thS (h:HM)(i:Nat)(x:List Rat × Rat):List Rat × Rat:=((List.range h.st).map (thP h i (x.1.set i 0) (x.1.getD i 0)),x.2+x.1.getD i 0*h.stop.getD i 0)
def uX (h:HM)(O:List Nat)(x:List Rat × Rat):List Rat × Rat:=O.foldl (λx i=>thS h i x) x
theorem JK:uX h (O++[i]) x=thS h i (uX h O x):=by unfold uX;rw[List.foldl_append];rfl
theorem TF:(thS h i x).1.length=h.st:=by simp[thS]
theorem sK (hx:x.1.length=h.st):(uX h O x).1.length=h.st:=by
 rcases List.eq_nil_or_concat O with rfl|⟨u,i,rfl⟩
 .exact hx
 .rw[List.concat_eq_append,JK];exact TF
theorem O3 {l:List Rat}:(l.set i 0).getD j 0=if j=i then 0 else l.getD j 0:=by
 rw[iZ,List.getElem?_set];by_cases e:i=j
 .subst e;rw[if_pos rfl,if_pos rfl]
  split <;> rfl
 .rw[if_neg e,if_neg (λh=>e h.symm),iZ]
theorem MK (hj:j<h.st):(thS h i x).1.getD j 0=(if j=i then 0 else x.1.getD j 0)+x.1.getD i 0*Hw h i j:=by
 show ((List.range h.st).map (thP h i (x.1.set i 0) (x.1.getD i 0))).getD j 0=_
 rw[dM _ _ hj];unfold thP;rw[O3]
theorem V5 (hx:x.1.length=h.st)(h0:x.1.getD i 0=0):thS h i x=x:=by
 unfold thS;rw[h0,Rat.zero_mul,Rat.add_zero];have:((List.range h.st).map (thP h i (x.1.set i 0) 0))=x.1:=by
  rw[<- hx];have e:(List.range x.1.length).map (thP h i (x.1.set i 0) 0)=(List.range x.1.length).map λj=>x.1.getD j 0:=List.map_congr_left λj hj=>by
   unfold thP;rw[Rat.zero_mul,Rat.add_zero,O3]
   split
   .rename_i e;rw[e,h0]
   .rfl
  rw[e,PS]
 rw[this]
structure He (h:HM) (O:List Nat):Prop where
 sil:∀ k,k ∈ O ↔ k<h.st/\h.silent.getD k false=true
 fwd:∀ u i v,O=u++i::v->∀ k,k ∈ u \/ k=i->Hw h i k=0
 len:O.length<=h.st
def LU (h:HM)(c:Rat)(φ:Nat->Rat)(i:Nat):Prop:=φ i=c*h.stop.getD i 0+dw (λj=>Hw h i j*φ j) h.st
def TG (h:HM)(c:Rat)(φ:Nat->Rat)(x:List Rat × Rat):Rat:=dw (λj=>x.1.getD j 0*φ j) h.st+c*x.2
theorem JL {f:Nat->Rat}(hi:i<n):dw f n=f i+dw (λj=>if j=i then 0 else f j) n:=by
 have e:dw f n=dw (λj=>(if i=j then f j else 0)+if j=i then 0 else f j) n:=dZ λj _=>by
  by_cases e:i=j
  .subst e;rw[if_pos rfl,if_pos rfl,Rat.add_zero]
  .rw[if_neg e,if_neg (λh=>e h.symm),Rat.zero_add]
 rw[e,CG,Kr hi]
theorem aI3 (hi:i<h.st)(hw:LU h c φ i):TG h c φ (thS h i x)=TG h c φ x:=by
 unfold TG;have e:dw (λj=>(thS h i x).1.getD j 0*φ j) h.st=dw (λj=>(if j=i then 0 else x.1.getD j 0*φ j)+x.1.getD i 0*(Hw h i j*φ j)) h.st:=dZ λj hj=>by
  rw[MK hj,Rat.add_mul,Rat.mul_assoc];congr 1
  split
  .rw[Rat.zero_mul]
  .rfl
 rw[e,CG,Gq,JL (f:=λj=>x.1.getD j 0*φ j) hi];show dw _ h.st+x.1.getD i 0*dw (λj=>Hw h i j*φ j) h.st+c*(x.2+x.1.getD i 0*h.stop.getD i 0)=x.1.getD i 0*φ i+dw (λj=>if j=i then 0 else x.1.getD j 0*φ j) h.st+c*x.2
 rw[hw];generalize dw (λj=>if j=i then 0 else x.1.getD j 0*φ j) h.st=S
 generalize dw (λj=>Hw h i j*φ j) h.st=T
 grind
theorem TI (hO:∀ k,k ∈ O->k<h.st/\LU h c φ k):TG h c φ (uX h O x)=TG h c φ x:=by
 induction O generalizing x with
 | nil=>rfl
 | cons i O ih =>
  show TG h c φ (uX h O (thS h i x))=_
  rw[ih (λk hk=>hO k (List.mem_cons_of_mem _ hk))];obtain⟨h1,h2⟩:=hO i yD;exact aI3 h1 h2
theorem V6 (o:He h O)(x:List Rat × Rat):∀ n,n<=O.length->∀ k,k ∈ O.take n->(uX h (O.take n) x).1.getD k 0=0
 | 0,_,k,hk=>by rw[List.take_zero] at hk;cases hk
 | n + 1, hn, k, hk => by
  have ih:=V6 o x n (by omega)
  have e:O.take (n+1)=O.take n++[O.getD n 0]:=cu (by omega) 0
  have es:O=O.take n++O.getD n 0::O.drop (n+1):=by
   conv=>lhs;rw[<- List.take_append_drop (n+1) O,e,List.append_assoc]
   rfl
  rw[e] at hk ⊢;have hk2:k ∈ O.take n \/ k=O.getD n 0:=(BO hk).imp id qm;have h0:=o.fwd _ _ _ es k hk2;have hks:k<h.st:=by
   have:k ∈ O:=by
    rcases hk2 with h1|h1
    .exact List.mem_of_mem_take h1
    .rw[h1];exact getD_mem (by omega) 0
   exact ((o.sil k).1 this).1
  rw[JK,MK hks,h0,Rat.mul_zero,Rat.add_zero]
  split
  .rfl
  .rename_i hne;rcases hk2 with h1|h1
   .exact ih k h1
   .exact absurd h1 hne
theorem ML (o:He h O)(x:List Rat × Rat)(hk:k<h.st)(hs:h.silent.getD k false=true):(uX h O x).1.getD k 0=0:=by
 have:=V6 o x O.length (Nat.le_refl _) k (by rw[List.take_length];exact (o.sil k).2 ⟨hk,hs⟩)
 rwa [List.take_length] at this
theorem av6 (o:He h O)(c:Rat)(ν:Nat->Rat):∃ φ:Nat->Rat,(∀ j,j<h.st->h.silent.getD j false=false->φ j=ν j)/\∀ k,k ∈ O->k<h.st/\LU h c φ k:=by
 have key : ∀ (v u : List Nat), O = u ++ v -> ∃ φ : Nat -> Rat, (∀ j, j < h.st -> h.silent.getD j false = false -> φ j = ν j) /\ ∀ k, k ∈ v -> LU h c φ k := λv => by
  induction v with
  | nil=>exact λu _=>⟨ν,λ_ _ _=>rfl,λk hk=>by cases hk⟩
  | cons i v ih =>
   intro u hu;obtain⟨φ,h1,h2⟩:=ih (u++[i]) (by rw[hu,List.append_assoc];rfl)
   have hi:i<h.st/\h.silent.getD i false=true:=(o.sil i).1 (by rw[hu];simp)
   have same:∀ k,k=i \/ k ∈ v->dw (λj=>Hw h k j*(if j=i then c*h.stop.getD i 0+dw (λj=>Hw h i j*φ j) h.st else φ j)) h.st=dw (λj=>Hw h k j*φ j) h.st:=λk hk=>dZ λj _=>by
    by_cases e:j=i
    .have h0:Hw h k i=0:=by
      rcases hk with rfl|hk
      .exact o.fwd u k v hu k (.inr rfl)
      .obtain⟨v1,v2,rfl⟩:=List.append_of_mem hk;exact o.fwd (u++i::v1) k v2 (by rw[hu,List.append_assoc];rfl) i (.inl (by simp))
     rw[e,h0,Rat.zero_mul,Rat.zero_mul]
    .rw[if_neg e]
   refine⟨λj=>if j=i then c*h.stop.getD i 0+dw (λj=>Hw h i j*φ j) h.st else φ j,λj hj hs=>?_,λk hk=>?_⟩
   .show (if j=i then _ else φ j)=ν j
    rw[if_neg (λe=>by rw[e,hi.2] at hs;cases hs)];exact h1 j hj hs
   .unfold LU;rcases List.mem_cons.1 hk with rfl|hk
    .rw[same k (.inl rfl)];exact if_pos rfl
    .rw[same k (.inr hk)];have hw:=h2 k hk;unfold LU at hw;show (if k=i then _ else φ k)=_
     split
     .rename_i e;rw[e] at hw ⊢
     .exact hw
 obtain⟨φ,h1,h2⟩:=key O [] rfl;exact⟨φ,h1,λk hk=>⟨((o.sil k).1 hk).1,h2 k hk⟩⟩
theorem V7 (o:He h O)(hφ:∀ j,j<h.st->h.silent.getD j false=false->φ j=ν j):TG h c φ (uX h O x)=dw (λj=>if h.silent.getD j false=true then 0 else (uX h O x).1.getD j 0*ν j) h.st+c*(uX h O x).2:=by
 unfold TG;congr 1;refine dZ λj hj=>?_
 split
 .rename_i hs;rw[ML o x hj hs,Rat.zero_mul]
 .rename_i hs;rw[hφ j hj (by simpa using hs)]
theorem V8 {O2:List Nat}(o:He h O)(o2:He h O2)(hx:x.1.length=h.st):uX h O x=uX h O2 x:=by
 have key:∀ (c:Rat) (ν:Nat->Rat),dw (λj=>if h.silent.getD j false=true then 0 else (uX h O x).1.getD j 0*ν j) h.st+c*(uX h O x).2=dw (λj=>if h.silent.getD j false=true then 0 else (uX h O2 x).1.getD j 0*ν j) h.st+c*(uX h O2 x).2:=λc ν=>by
  obtain⟨φ,h1,h2⟩:=av6 o c ν;rw[<- V7 o h1,<- V7 o2 h1,TI h2,TI λk hk=>h2 k ((o.sil k).2 ((o2.sil k).1 hk))]
 refine Prod.ext (iK ((sK hx).trans (sK hx).symm) 0 λj hj=>?_) ?_
 .have hj:j<h.st:=by rw[sK hx] at hj;exact hj
  by_cases hs:h.silent.getD j false=true
  .rw[ML o x hj hs,ML o2 x hj hs]
  .have e:=key 0 λi=>if j=i then 1 else 0
   have pick:∀ y:List Rat × Rat,dw (λi=>if h.silent.getD i false=true then 0 else y.1.getD i 0*(if j=i then (1:Rat) else 0)) h.st=y.1.getD j 0:=λy=>by
    have:dw (λi=>if h.silent.getD i false=true then 0 else y.1.getD i 0*(if j=i then (1:Rat) else 0)) h.st=dw (λi=>if j=i then y.1.getD i 0 else 0) h.st:=dZ λi _=>by
     by_cases e:j=i
     .subst e;rw[if_neg hs,if_pos rfl,if_pos rfl,Rat.mul_one]
     .rw[if_neg e,if_neg e,Rat.mul_zero];split <;> rfl
    rw[this,Kr hj]
   rw[pick,pick,Rat.zero_mul,Rat.zero_mul,Rat.add_zero,Rat.add_zero] at e;exact e
 .have e:=key 1 λ_=>0;have none:∀ y:List Rat × Rat,dw (λi=>if h.silent.getD i false=true then 0 else y.1.getD i 0*(0:Rat)) h.st=0:=λy=>oU λi _=>by rw[Rat.mul_zero];split <;> rfl
  rw[none,none,Rat.one_mul,Rat.one_mul,Rat.zero_add,Rat.zero_add] at e;exact e
end
structure EI (h:HM) (s o:List Int):Prop where
 mem:∀ k:Nat,(k:Int) ∈ o ↔ k<h.st/\s.getD k 0=2
 nat:∀ x,x ∈ o->0<=x
 nod:o.Nodup
 bwd:∀ (a:List Int) (i:Int) (b:List Int),o=a++i::b->∀ j,j<h.st->h.silent.getD j false=true->0<(h.trans.getD i.toNat []).getD j 0->(j:Int) ∈ a
 sil:∀ k,k<h.st->s.getD k 0≠0->h.silent.getD k false=true
section
variable {h:HM}{s s2 o o2:List Int}{i:Nat}
theorem EI.zero:EI h (List.replicate h.st 0) []:=by
 have z:∀ k,(List.replicate h.st (0:Int)).getD k 0=0:=λk=>by
  rw[iZ,List.getElem?_replicate];split <;> rfl
 exact⟨λk=>⟨λe=>absurd e List.not_mem_nil,λe=>by rw[z] at e;exact absurd e.2 (by decide)⟩,λx e=>absurd e List.not_mem_nil,List.nodup_nil,λa i b e=>by simp at e,λk _ e=>absurd (z k) e⟩
theorem EI.start (l:EI h s o)(hl:s.length=h.st)(hi:i<h.st)(h0:s.getD i 0=0)(si:h.silent.getD i false=true):EI h (s.set i 1) o:=by
 have e:∀ k,(s.set i 1).getD k 0=if k=i then 1 else s.getD k 0:=o5 (by omega)
 refine⟨λk=>?_,l.nat,l.nod,l.bwd,λk hk hn=>?_⟩
 .rw[l.mem k,e k];by_cases c:k=i
  .subst c;rw[if_pos rfl,h0];exact⟨λx=>absurd x.2 (by decide),λx=>absurd x.2 (by decide)⟩
  .rw[if_neg c]
 .rw[e k] at hn;by_cases c:k=i
  .rw[c];exact si
  .rw[if_neg c] at hn;exact l.sil k hk hn
theorem EI.fin (l:EI h s2 o2)(m:Mid h s i s2 h.st)(hi:i<h.st)(si:h.silent.getD i false=true):EI h (s2.set i 2) (o2++[(i:Int)]):=by
 have hl:=m.dfs.len;have e:∀ k,(s2.set i 2).getD k 0=if k=i then 2 else s2.getD k 0:=o5 (by omega)
 have h1:s2.getD i 0=1:=(m.one i).2 (.inl rfl);have hno:(i:Int) ∉ o2:=λc=>by
  have:=((l.mem i).1 c).2;rw[h1] at this;cases this
 refine⟨λk=>?_,λx hx=>?_,?_,λa x b hab j hj sj pj=>?_,λk hk hn=>?_⟩
 .rw[List.mem_append,List.mem_singleton,l.mem k,e k];by_cases c:k=i
  .subst c;rw[if_pos rfl];exact⟨λ_=>⟨hi,rfl⟩,λ_=>.inr rfl⟩
  .rw[if_neg c];exact⟨λx=>x.elim (λy=>y) (λy=>absurd (by omega:k=i) c),λx=>.inl x⟩
 .rcases BO hx with hx|hx
  .exact l.nat x hx
  .rw[qm hx];omega
 .refine List.nodup_append.2 ⟨l.nod,List.pairwise_singleton _ _,λx hx y hy hxy=>?_⟩;rw[qm hy] at hxy;exact hno (hxy ▸ hx)
 .rcases List.eq_nil_or_concat b with rfl|⟨c,y,rfl⟩
  .obtain⟨q1,q2⟩:=List.append_inj' hab rfl;have q3:(i:Int)=x:=by simpa using q2
   subst q3;rw[<- q1];rw[Int.toNat_natCast] at pj;exact (l.mem j).2 ⟨hj,m.done j hj hj sj pj⟩
  .rw[List.concat_eq_append] at hab;have q:=List.append_inj' (s₁:=o2) (t₁:=[(i:Int)]) (s₂:=a++x::c) (t₂:=[y]) (by rw[hab];simp) rfl
   exact l.bwd a x c q.1 j hj sj pj
 .rw[e k] at hn;by_cases c:k=i
  .rw[c];exact si
  .rw[if_neg c] at hn;exact l.sil k hk hn
theorem EI.ord (l:EI h s o)(f:h.oh)(hall:∀ k,k<h.st->h.silent.getD k false=true->s.getD k 0=2)(h12:o.length<=h.st):He h (o.reverse.map Int.toNat):=by
 have hmem:∀ k:Nat,k ∈ o.reverse.map Int.toNat ↔ (k:Int) ∈ o:=λk=>by
  rw[List.mem_map];constructor
  .rintro⟨x,hx,rfl⟩
   have hx:=List.mem_reverse.1 hx;rw[Int.toNat_of_nonneg (l.nat x hx)];exact hx
  .exact λhk=>⟨(k:Int),List.mem_reverse.2 hk,Int.toNat_natCast k⟩
 refine⟨λk=>?_,λu i v e k hk=>?_,by rw[dF,List.length_reverse];exact h12⟩
 .rw[hmem,l.mem k];exact⟨λx=>⟨x.1,l.sil k x.1 (by rw[x.2];decide)⟩,λx=>⟨x.1,hall k x.1 x.2⟩⟩
 .obtain⟨u2,w2,e1,e2,e3⟩:=List.map_eq_append_iff.1 e;obtain⟨x,v2,e4,e5,e6⟩:=List.map_eq_cons_iff.1 e3;have eo:o=v2.reverse++x::u2.reverse:=by
   have:o=(u2++w2).reverse:=by rw[<- e1,List.reverse_reverse]
   rw[this,e4];simp
  have hx0:0<=x:=l.nat x (by rw[eo];simp)
  have hko:(k:Int) ∈ o:=by
   rw[<- hmem,e];rcases hk with hk|hk
   .exact List.mem_append.2 (.inl hk)
   .rw[hk];exact List.mem_append.2 (.inr yD)
  obtain⟨k1,k2⟩:=(l.mem k).1 hko;have bm0:=l.sil k k1 (by rw[k2];decide)
  have hnn:0<=(h.trans.getD i []).getD k 0:=((f.pT i).get k).1;show (h.trans.getD i []).getD k 0=0
  refine Classical.byContradiction λhne=>?_;have hpos:0<(h.trans.getD i []).getD k 0:=by
   rcases Rat.le_iff_lt_or_eq.1 hnn with q|q
   .exact q
   .exact absurd q.symm hne
  have hka:=l.bwd v2.reverse x u2.reverse eo k k1 bm0 (by rw[e5];exact hpos)
  have hnd:=l.nod;rw[eo,List.nodup_append] at hnd;refine hnd.2.2 _ hka (k:Int) ?_ rfl;rcases hk with hk|hk
  .rw[<- e2] at hk;obtain⟨y,hy,rfl⟩:=Az hk;have hy0:0<=y:=l.nat y (by rw[eo];simp[hy])
   rw[Int.toNat_of_nonneg hy0];exact List.mem_cons_of_mem _ (List.mem_reverse.2 hy)
  .rw[hk,<- e5,Int.toNat_of_nonneg hx0];exact List.mem_cons_self ..
end
theorem TJ {a b:Rat}(h:0<=b):a<=a+b:=by
 have:=(Rat.add_le_add_left (c:=a)).2 h
 rwa [Rat.add_zero] at this
def ba8 (k:Nat):Nat->List (List Int)
 | 0=>[[]]
 | n+1=>(ba8 k n).flatMap (oV k)
def aM8 (k:Nat):Nat->List (List Int)
 | 0=>[]
 | n+1=>aM8 k n++ba8 k n
section
variable {g:HM}{k n:Nat}
theorem JM {l:List Rat}{m:Nat}(h:l.length=m):dw (λi=>l.getD i 0) m=iG l:=by
 subst h;have key:∀ i,i<=l.length->dw (λi=>l.getD i 0) i=iG (l.take i):=λi=>by
  induction i with
  | zero=>intro _;rfl
  | succ i ih=>intro hi;rw[dw,ih (by omega),zW (by omega)]
 rw[key _ (Nat.le_refl _),List.take_length]
section
variable {b B:Nat}(h:HM.jK b B g)
include h
end
end
def bD (h:HM):List Nat:=(List.range h.st).filter λi=>!(h.silent.getD i false)
def JV (h:HM)(l:List Rat):List Rat:=(bD h).map λi=>l.getD i 0
def wI (h:HM)(O:List Nat)(i:Nat):List Rat × Rat:=uX h O (h.trans.getD i [],h.stop.getD i 0)
def FP (h:HM)(O:List Nat):List Rat × Rat:=uX h O (h.ini,h.empty)
def kW (h:HM)(O:List Nat)(ties:List Int):HM :=
 ⟨h.sym,(bD h).length,(FP h O).2,JV h (FP h O).1,(bD h).map λi=>JV h (wI h O i).1,(bD h).map λi=>(wI h O i).2,(bD h).map λi=>h.emit.getD i [],List.replicate (bD h).length false,ties⟩
def O4 (B:Nat):Nat->Nat
 | 0=>B
 | n+1=>2*O4 B n+B+2
theorem Aw {B:Nat}:∀ {m n:Nat},m<=n->O4 B m<=O4 B n
 | m,0,h=>by rw[show m=0 by omega];exact Nat.le_refl _
 | m, n + 1, h => by
  rcases Nat.lt_or_ge m (n+1) with k|k
  .have:=Aw (B:=B) (show m<=n by omega)
   show O4 B m<=2*O4 B n+B+2
   omega
  .rw[show m=n+1 by omega];exact Nat.le_refl _
section
variable {h:HM}{O:List Nat}{x:List Rat × Rat}{i j k n B:Nat}{l:List Rat}
structure NnT (x:List Rat × Rat):Prop where
 a:∀ j,0<=x.1.getD j 0
 b:0<=x.2
theorem aU3 (f:h.oh)(hx:NnT x):NnT (thS h i x):=by
 refine⟨λj=>?_,Rat.add_nonneg hx.b (Rat.mul_nonneg (hx.a i) (f.pS.get i).1)⟩;rcases Nat.lt_or_ge j h.st with hj|hj
 .rw[MK hj];refine Rat.add_nonneg ?_ (Rat.mul_nonneg (hx.a i) ((f.pT i).get j).1)
  split
  .exact Rat.le_refl
  .exact hx.a j
 .rw[vF (by rw[TF];exact hj)];exact Rat.le_refl
theorem aU4 (f:h.oh)(hx:NnT x):NnT (uX h O x):=by
 induction O generalizing x with
 | nil=>exact hx
 | cons i O ih=>exact ih (aU3 f hx)
theorem aI4 (f:h.oh)(sm:h.Me)(o:∀ k,k ∈ O->k<h.st):dw (λj=>(uX h O x).1.getD j 0) h.st+(uX h O x).2=dw (λj=>x.1.getD j 0) h.st+x.2:=by
 have hw:∀ k,k ∈ O->k<h.st/\LU h 1 (λ_=>1) k:=λk hk=>by
  refine⟨o k hk,?_⟩;unfold LU;have e:dw (λj=>Hw h k j*(1:Rat)) h.st=iG (h.trans.getD k []):=by
   rw[<- JM (f.x9 k (o k hk))];exact dZ λj _=>by rw[Rat.mul_one];rfl
  have s:=sm.t k (o k hk);rw[Jb,rP,yc,Rat.add_zero] at s;rw[e,Rat.one_mul,Rat.add_comm,s]
 have:=TI (x:=x) hw;unfold TG at this;rw[Rat.one_mul,Rat.one_mul] at this;have m1:∀ y:List Rat × Rat,dw (λj=>y.1.getD j 0*(1:Rat)) h.st=dw (λj=>y.1.getD j 0) h.st:=λy=>dZ λj _=>Rat.mul_one _;rw[m1,m1] at this;exact this
structure SzT (C:Nat) (x:List Rat × Rat):Prop where
 a:∀ j,sz (x.1.getD j 0)<=C
 b:sz x.2<=C
theorem aU5 (zT:∀ i,Small B (h.trans.getD i []))(zS:Small B h.stop)(h1:1<=B)(hx:SzT n x):SzT (2*n+B+2) (thS h i x):=by
 refine⟨λj=>?_,?_⟩
 .rcases Nat.lt_or_ge j h.st with hj|hj
  .rw[MK hj];have q1:=jZ (x.1.getD i 0) (Hw h i j);have q2:sz (Hw h i j)<=B:=(zT i).get h1 j;have q3:=hx.a i;have q4:=hx.a j;have q5:=vz (if j=i then 0 else x.1.getD j 0) (x.1.getD i 0*Hw h i j)
   have q6:sz (if j=i then 0 else x.1.getD j 0)<=n+1:=by
    split
    .rw[gJ];omega
    .omega
   omega
  .rw[vF (by rw[TF];exact hj),gJ];omega
 .have q1:=jZ (x.1.getD i 0) (h.stop.getD i 0);have q2:=zS.get h1 i;have q3:=hx.a i;have q4:=hx.b;have q5:=vz x.2 (x.1.getD i 0*h.stop.getD i 0);show sz (x.2+x.1.getD i 0*h.stop.getD i 0)<=_
  omega
theorem av7 (zT:∀ i,Small B (h.trans.getD i []))(zS:Small B h.stop)(h1:1<=B)(hx:SzT B x):SzT (O4 B O.length) (uX h O x):=by
 have key:∀ n,n<=O.length->SzT (O4 B n) (uX h (O.take n) x):=λn=>by
  induction n with
  | zero=>intro _;rw[List.take_zero];exact hx
  | succ n ih =>
   intro hn;rw[cu (show n<O.length by omega) 0,JK]
   exact aU5 zT zS h1 (ih (by omega))
 have:=key O.length (Nat.le_refl _)
 rwa [List.take_length] at this
theorem JO:k ∈ bD h ↔ k<h.st/\h.silent.getD k false=false:=by
 unfold bD;rw[List.mem_filter,List.mem_range];simp
theorem MN:(bD h).length<=h.st:=by
 unfold bD;refine Nat.le_trans (List.length_filter_le ..) ?_;rw[List.length_range];exact Nat.le_refl _
theorem xW (hk:k<(bD h).length):(bD h).getD k 0<h.st/\h.silent.getD ((bD h).getD k 0) false=false:=JO.1 (getD_mem hk 0)
theorem O5 (p:Nat->Bool)(g:Nat->Rat):∀ n:Nat,iG (((List.range n).filter p).map g)=dw (λj=>if p j=true then g j else 0) n
 | 0=>rfl
 | n+1=>by
  rw[List.range_succ,List.filter_append,List.map_append,Jb,O5 p g n,dw];congr 1;cases hp:p n with
  | true=>rw[List.filter_cons,if_pos hp,if_pos rfl];show iG [g n]=g n;rw[rP,yc,Rat.add_zero]
  | false=>rw[List.filter_cons,if_neg (by rw[hp];decide),if_neg (by decide)];rfl
theorem aU6 (hz:∀ k,k<h.st->h.silent.getD k false=true->l.getD k 0=0):iG (JV h l)=dw (λj=>l.getD j 0) h.st:=by
 unfold JV bD;rw[O5];refine dZ λj hj=>?_;cases hs:h.silent.getD j false with
 | true=>rw[if_neg (by decide),hz j hj hs]
 | false=>rw[if_pos (by decide)]
theorem MO {f:Nat->Rat}(hf:∀ j,0<=f j):∀ n,0<=dw f n
 | 0=>Rat.le_refl
 | n+1=>Rat.add_nonneg (MO hf n) (hf n)
theorem aU7 {x:List Rat × Rat}(nn:NnT x)(hs:dw (λj=>x.1.getD j 0) n+x.2=1)(hj:j<n):x.1.getD j 0<=1:=by
 rw[JL (f:=λj=>x.1.getD j 0) hj,Rat.add_assoc] at hs;rw[<- hs];refine TJ (Rat.add_nonneg (MO (λk=>?_) n) nn.b)
 split
 .exact Rat.le_refl
 .exact nn.a k
theorem aU8 {x:List Rat × Rat}(nn:NnT x)(hs:dw (λj=>x.1.getD j 0) n+x.2=1):x.2<=1:=by
 rw[<- hs,Rat.add_comm];exact TJ (MO (λk=>nn.a k) n)
structure Yd (h:HM) (C:Nat) (x:List Rat × Rat):Prop where
 sh:iY (JV h x.1)
 en:sN x.2
 sz:Small C (JV h x.1)
 ze:Go.AL.sz x.2<=C
 su:iG (JV h x.1++[x.2])=1
theorem TK (f:h.oh)(sm:h.Me)(o:He h O)(zT:∀ i,Small B (h.trans.getD i []))(zS:Small B h.stop)(h1:1<=B)(hl:l.length=h.st){e:Rat}(hsl:iY l)(hse:sN e)(hzl:Small B l)(hze:sz e<=B)(hsum:iG (l++[e])=1):Yd h (O4 B h.st) (uX h O (l,e)):=by
 have nn:=aU4 (O:=O) f (x:=(l,e)) ⟨λj=>(hsl.get j).1,hse.1⟩;have zz:=av7 (O:=O) zT zS h1 (x:=(l,e)) ⟨λj=>hzl.get h1 j,hze⟩;have up:=Aw (B:=B) o.len;have s1:dw (λj=>(uX h O (l,e)).1.getD j 0) h.st+(uX h O (l,e)).2=1:=by
  rw[aI4 f sm λk hk=>((o.sil k).1 hk).1];show dw (λj=>l.getD j 0) h.st+e=1
  rw[JM hl]
  rwa [Jb,rP,yc,Rat.add_zero] at hsum
 refine⟨λq hq=>?_,⟨nn.b,aU8 nn s1⟩,λq hq=>?_,Nat.le_trans zz.b up,?_⟩
 .obtain⟨i,hi,rfl⟩:=Az hq;exact⟨nn.a i,aU7 nn s1 (JO.1 hi).1⟩
 .obtain⟨i,hi,rfl⟩:=Az hq;exact Nat.le_trans (zz.a i) up
 .rw[Jb,rP,yc,Rat.add_zero,aU6 λk hk hs=>ML o _ hk hs];exact s1
theorem af9 {ties:List Int}{b:Nat}(f:h.oh)(sm:h.Me)(o:He h O)(zE:sz h.empty<=B)(zI:Small B h.ini)(zT:∀ i,Small B (h.trans.getD i []))(zS:Small B h.stop)(zM:∀ i,Small B (h.emit.getD i []))(h1:1<=B)(hB:O4 B h.st<=b)(hn:1<=(bD h).length)
  (tl:ties.length=(bD h).length) (tr:∀ i,i<(bD h).length->0<=ties.getD i 0/\ties.getD i 0<(bD h).length) (tt:∀ i j,i<(bD h).length->j<i->ties.getD i 0=ties.getD j 0->h.emit.getD ((bD h).getD i 0) []=h.emit.getD ((bD h).getD j 0) []):HM.jK b (O4 B h.st) (kW h O ties):=by
 have hBm:B<=O4 B h.st:=Aw (m:=0) (Nat.zero_le _);have ri:=TK (O:=O) f sm o zT zS h1 f.ini f.pI f.pE zI zE sm.i;have rr:∀ i,i<h.st->Yd h (O4 B h.st) (wI h O i):=λi hi=>TK f sm o zT zS h1 (f.x9 i hi) (f.pT i) (f.pS.get i) (zT i) (zS.get h1 i) (sm.t i hi);have pl:∀ l:List Rat,(JV h l).length=(bD h).length:=λl=>by unfold JV;rw[dF]
 have gt:∀ k,k<(bD h).length->((bD h).map λi=>JV h (wI h O i).1).getD k []=JV h (wI h O ((bD h).getD k 0)).1:=λk hk=>Ef (d:=0) hk;have gs:∀ k,k<(bD h).length->((bD h).map λi=>(wI h O i).2).getD k 0=(wI h O ((bD h).getD k 0)).2:=λk hk=>Ef (d:=0) hk;have ge:∀ k,k<(bD h).length->((bD h).map λi=>h.emit.getD i []).getD k []=h.emit.getD ((bD h).getD k 0) []:=λk hk=>Ef (d:=0) hk;have out:∀ {α:Type} {g:Nat->α} {d:α} {k:Nat},(bD h).length<=k->((bD h).map g).getD k d=d:=λhk=>vF (by rw[dF];exact hk)
 have hst:=f.st1;have hll:=MN (h:=h);refine⟨⟨f.qR,f.sZ,hn,by show (bD h).length<=12;omega,pl _,dF ..,λi hi=>?_,dF ..,dF ..,λi hi=>?_,rfl,tl,tr,by omega,hB,ri.ze,ri.sz,λq hq=>?_,λi=>?_,λi=>?_⟩,ri.en,ri.sh,λq hq=>?_,λi=>?_,λi=>?_,ri.su,λi hi=>?_,λi hi=>?_,λi j hi hj ht=>?_⟩
 .show (((bD h).map λi=>JV h (wI h O i).1).getD i []).length=_
  rw[gt i hi];exact pl _
 .show (((bD h).map λi=>h.emit.getD i []).getD i []).length=h.sym
  rw[ge i hi];obtain⟨a,b⟩:=xW hi;have:=f.AQ _ a;rw[b] at this;exact this
 .obtain⟨i,hi,rfl⟩:=Az hq;exact (rr i (JO.1 hi).1).ze
 .show Small _ (((bD h).map λi=>JV h (wI h O i).1).getD i [])
  rcases Nat.lt_or_ge i (bD h).length with hi|hi
  .rw[gt i hi];exact (rr _ (xW hi).1).sz
  .rw[out hi];exact Small.nil
 .show Small _ (((bD h).map λi=>h.emit.getD i []).getD i [])
  rcases Nat.lt_or_ge i (bD h).length with hi|hi
  .rw[ge i hi];exact (zM _).mono hBm
  .rw[out hi];exact Small.nil
 .obtain⟨i,hi,rfl⟩:=Az hq;exact (rr i (JO.1 hi).1).en
 .show iY (((bD h).map λi=>JV h (wI h O i).1).getD i [])
  rcases Nat.lt_or_ge i (bD h).length with hi|hi
  .rw[gt i hi];exact (rr _ (xW hi).1).sh
  .rw[out hi];exact λq hq=>by cases hq
 .show iY (((bD h).map λi=>h.emit.getD i []).getD i [])
  rcases Nat.lt_or_ge i (bD h).length with hi|hi
  .rw[ge i hi];exact f.pM _
  .rw[out hi];exact λq hq=>by cases hq
 .show iG (((bD h).map λi=>JV h (wI h O i).1).getD i []++[((bD h).map λi=>(wI h O i).2).getD i 0])=1
  rw[gt i hi,gs i hi];exact (rr _ (xW hi).1).su
 .show iG (((bD h).map λi=>h.emit.getD i []).getD i [])=1
  rw[ge i hi];exact sm.m _ (xW hi).1 (xW hi).2
 .show ((bD h).map λi=>h.emit.getD i []).getD i []=((bD h).map λi=>h.emit.getD i []).getD j []
  have hi2:i<(bD h).length:=hi;rw[ge i hi2,ge j (by omega)]
  exact tt i j hi2 hj ht

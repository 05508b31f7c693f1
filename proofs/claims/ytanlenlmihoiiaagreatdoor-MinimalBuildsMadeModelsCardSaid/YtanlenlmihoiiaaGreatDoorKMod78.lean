/-
  M, chapter 23: arcs in order, merged; sums, multiples and reversals of automata.
-/
import Derived.Test.YtanlenlmihoiiaaGreatDoorKMod75
set_option linter.unusedVariables false
set_option linter.unusedSimpArgs false
namespace Go.AL
open Go Go.BigFrame
def Nq (B:Nat)(rs:List bZ):Prop:=∀ k r,rs[k]? = some r->(∀ i,sz (r.v.getD i 0)+1<=4 ^ k*(B+1))/\∀ i,sz (r.c.getD i 0)+1<=4 ^ k*(B+1)
section
variable {B:Nat}{rs:List bZ}{w t:List Rat}
theorem Jz {f:Nat->Rat}{C:Nat}(n:Nat)(hC:1<=C)(h:∀ i,sz (f i)<=C)(i:Nat):sz (((List.range n).map f).getD i 0)<=C:=by
 rcases Nat.lt_or_ge i n with hi|hi
 .rw[aT _ _ hi];exact h i
 .rw[jh,List.getElem?_eq_none (by simp;exact hi),Option.getD_none,fH];exact hC
theorem YQ {r:bZ}{C:Nat}(hw:∀ i,sz (w.getD i 0)+1<=C)(hr:∀ i,sz (r.v.getD i 0)+1<=C):sz (fJ w r)+2<=2*C:=by
 have h:=O1 (w.getD r.p 0) (r.v.getD r.p 0);have h1:=hw r.p;have h2:=hr r.p;unfold fJ;omega
theorem JA {r:bZ}{C:Nat}(hw:∀ i,sz (w.getD i 0)+1<=C)(hr:∀ i,sz (r.v.getD i 0)+1<=C)(i:Nat):sz ((jg w r).getD i 0)+1<=4*C:=by
 have hC:1<=C:=Nat.le_trans (Nat.le_add_left 1 _) (hw 0);have key:sz ((jg w r).getD i 0)<=4*C-1:=Jz w.length (f:=λi=>w.getD i 0-fJ w r*r.v.getD i 0) (by omega) (λi=>by
  have h1:=av7 (w.getD i 0) (fJ w r*r.v.getD i 0);have h2:=lu (fJ w r) (r.v.getD i 0);have h3:=YQ hw hr;have h4:=hw i;have h5:=hr i;omega) i
 omega
theorem aP2 {r:bZ}{C:Nat}(hw:∀ i,sz (w.getD i 0)+1<=C)(ht:∀ i,sz (t.getD i 0)+1<=C)(hr:∀ i,sz (r.v.getD i 0)+1<=C)(hc:∀ i,sz (r.c.getD i 0)+1<=C)(i:Nat):sz ((IA t (fJ w r) r.c).getD i 0)+1<=4*C:=by
 have hC:1<=C:=Nat.le_trans (Nat.le_add_left 1 _) (hw 0);have key:sz ((IA t (fJ w r) r.c).getD i 0)<=4*C-1:=Jz t.length (f:=λi=>t.getD i 0+fJ w r*r.c.getD i 0) (by omega) (λi=>by
  have h1:=AX (t.getD i 0) (fJ w r*r.c.getD i 0);have h2:=lu (fJ w r) (r.c.getD i 0);have h3:=YQ hw hr;have h4:=ht i;have h5:=hc i;omega) i
 omega
theorem ac0:∀ (rs:List bZ) (j:Nat) (w:List Rat),(∀ k r,rs[k]? = some r->∀ i,sz (r.v.getD i 0)+1<=4 ^ (j+k)*(B+1))->(∀ i,sz (w.getD i 0)+1<=4 ^ j*(B+1))->∀ i,sz ((aO rs w).getD i 0)+1<=4 ^ (j+rs.length)*(B+1)
 | [],_,_,_,hw,i=>hw i
 | r :: rs, j, w, h, hw, i => by
  have h0:=h 0 r rfl;rw[Nat.add_zero] at h0;have:=ac0 rs (j+1) (jg w r) (λk q hq=>by
   have:=h (k+1) q hq
   rwa [show j+(k+1)=j+1+k by omega] at this) (λi=>by
   have:=JA hw h0 i
   rwa [Nat.pow_succ,Nat.mul_comm (4 ^ j),Nat.mul_assoc]) i
  rwa [aO,List.length_cons,show j+(rs.length+1)=j+1+rs.length by omega]
theorem WB:∀ (rs:List bZ) (j:Nat) (w t:List Rat),(∀ k r,rs[k]? = some r->(∀ i,sz (r.v.getD i 0)+1<=4 ^ (j+k)*(B+1))/\∀ i,sz (r.c.getD i 0)+1<=4 ^ (j+k)*(B+1))->(∀ i,sz (w.getD i 0)+1<=4 ^ j*(B+1))->(∀ i,sz (t.getD i 0)+1<=4 ^ j*(B+1)) ->
  ∀ i,sz ((tX rs w t).getD i 0)+1<=4 ^ (j+rs.length)*(B+1)
 | [],_,_,_,_,_,ht,i=>ht i
 | r :: rs, j, w, t, h, hw, ht, i => by
  have h0:=h 0 r rfl;rw[Nat.add_zero] at h0;have:=WB rs (j+1) (jg w r) (IA t (fJ w r) r.c) (λk q hq=>by
   have:=h (k+1) q hq
   rwa [show j+(k+1)=j+1+k by omega] at this) (λi=>by
   have:=JA hw h0.1 i
   rwa [Nat.pow_succ,Nat.mul_comm (4 ^ j),Nat.mul_assoc]) (λi=>by
   have:=aP2 hw ht h0.1 h0.2 i
   rwa [Nat.pow_succ,Nat.mul_comm (4 ^ j),Nat.mul_assoc]) i
  rwa [tX,List.length_cons,show j+(rs.length+1)=j+1+rs.length by omega]
theorem Nq.nil:Nq B []:=λk r h=>by cases h
theorem Nq.take (h:Nq B rs)(j:Nat):Nq B (rs.take j):=λk r hk=>by
 rw[List.getElem?_take] at hk
 split at hk
 .exact h k r hk
 .cases hk
theorem Nq.red (h:Nq B rs)(hw:∀ i,sz (w.getD i 0)<=B)(i:Nat):sz ((aO rs w).getD i 0)+1<=4 ^ rs.length*(B+1):=by
 have:=ac0 rs 0 w (λk r hk=>by rw[Nat.zero_add];exact (h k r hk).1) (λi=>by rw[Nat.pow_zero,Nat.one_mul];have:=hw i;omega) i
 rwa [Nat.zero_add] at this
theorem wW (n i:Nat):(List.replicate n (0:Rat)).getD i 0=0:=by
 rw[jh,List.getElem?_replicate]
 split <;> rfl
theorem Nq.tX (h:Nq B rs)(h1:1<=B)(hw:∀ i,sz (w.getD i 0)<=B)(n i:Nat):sz ((Go.AL.tX rs w (List.replicate n 0)).getD i 0)+1<=4 ^ rs.length*(B+1):=by
 have:=WB rs 0 w (List.replicate n 0) (λk r hk=>by rw[Nat.zero_add];exact h k r hk) (λi=>by rw[Nat.pow_zero,Nat.one_mul];have:=hw i;omega) (λi=>by rw[Nat.pow_zero,Nat.one_mul,wW,fH];omega) i
 rwa [Nat.zero_add] at this
theorem Pv (k:Nat):1<=4 ^ k:=Nat.one_le_pow _ _ (by decide)
theorem Nq.NJ (h:Nq B rs)(h1:1<=B)(hw:∀ i,sz (w.getD i 0)<=B)(i:Nat):sz ((Go.AL.NJ rs w).getD i 0)+1<=4 ^ rs.length*(B+1):=by
 have hp:B+1<=4 ^ rs.length*(B+1):=Nat.le_mul_of_pos_left _ (Pv _);have hl:((jS rs w).map λx=>-x).length=(jS rs w).length:=dA ..;unfold Go.AL.NJ;rw[jh];rcases Nat.lt_or_ge i (jS rs w).length with hi|hi
 .rw[List.getElem?_append_left (by rw[hl];exact hi),List.getElem?_map,lQ hi,Option.map_some,Option.getD_some,OC]
  have:=h.tX h1 hw rs.length i;rw[jh,show Go.AL.tX rs w (List.replicate rs.length 0)=jS rs w from rfl,lQ hi,Option.getD_some] at this
  exact this
 .rw[List.getElem?_append_right (by rw[hl];exact hi),hl]
  rcases Nat.eq_zero_or_pos (i-(jS rs w).length) with h0|h0
  .rw[h0];show sz 1+1<=_
   rw[FO];omega
  .rw[List.getElem?_eq_none (by rw[iY];exact h0),Option.getD_none,fH];omega
theorem Nq.grow (h:Nq B rs)(h1:1<=B)(hw:∀ i,sz (w.getD i 0)<=B):Nq B (rs++[newR rs w]):=λk r hk=>by
 rcases Nat.lt_or_ge k rs.length with hi|hi
 .rw[List.getElem?_append_left hi] at hk;exact h k r hk
 .rw[List.getElem?_append_right hi] at hk;rcases Nat.eq_zero_or_pos (k-rs.length) with h0|h0
  .rw[h0] at hk;cases hk
   have e:k=rs.length:=by omega
   subst e;exact⟨λi=>h.red hw i,λi=>h.NJ h1 hw i⟩
  .rw[List.getElem?_eq_none (by rw[iY];exact h0)] at hk;cases hk
theorem Nq.add (h:Nq B rs)(h1:1<=B)(hw:∀ i,sz (w.getD i 0)<=B):Nq B (uK rs w):=by
 unfold uK
 split
 .exact h.grow h1 hw
 .exact h
end
def Ans (m:bV):Option (List Int)->Prop
 | none=>∀ w,iV m.k w->yH m w=0
 | some w=>E8 m w
section
variable {m m2:bV}{V K Q:List (List Int)}{rs:List bZ}{w:List Int}{o p:Option (List Int)}
theorem Ans.unique (h:Ans m o)(k:Ans m p):o=p:=by
 cases o with
 | none =>
  cases p with
  | none=>rfl
  | some w=>exact absurd (h w k.vF) k.nz
 | some v =>
  cases p with
  | none=>exact absurd (k v h.vF) h.nz
  | some w=>rw[E8.unique h k]
theorem Ans.congr (hk:m2.k=m.k)(e:∀ w,iV m.k w->(yH m w=0 ↔ yH m2 w=0))(h:Ans m o):Ans m2 o:=by
 cases o with
 | none=>exact λw hw=>(e w (hk ▸ hw)).1 (h w (hk ▸ hw))
 | some v=>exact⟨hk ▸ h.vF,λz=>h.nz ((e v h.vF).2 z),λu hu hl=>(e u (hk ▸ hu)).1 (h.before u (hk ▸ hu) hl)⟩
structure E9 (K Q:List (List Int)):Prop where
 kept:∀ (i:Nat) (u:List Int),K[i]? = some u->u.length<=i
 open_:∀ q:List Int,q ∈ Q->q.length<=K.length
theorem E9.start:E9 [] [[]]:=⟨λi u h=>(by cases h),λq h=>(by rw[jJ h];exact Nat.le_refl _)⟩
theorem E9.drop (h:E9 K (w::Q)):E9 K Q:=⟨h.kept,λq hq=>h.open_ q (List.mem_cons_of_mem _ hq)⟩
theorem E9.keep {k:Nat}(h:E9 K (w::Q)):E9 (K++[w]) (Q++cu k w):=by
 have hw:=h.open_ w pU;refine⟨λi u hi=>?_,λq hq=>?_⟩
 .rcases Nat.lt_or_ge i K.length with hl|hl
  .rw[List.getElem?_append_left hl] at hi;exact h.kept i u hi
  .rw[List.getElem?_append_right hl] at hi;rcases Nat.eq_zero_or_pos (i-K.length) with h0|h0
   .rw[h0] at hi;cases hi;omega
   .rw[List.getElem?_eq_none (by rw[iY];exact h0)] at hi;cases hi
 .rw[jd,iY];rcases uy hq with hq|hq
  .have:=h.open_ q (List.mem_cons_of_mem _ hq);omega
  .obtain⟨s,_,rfl⟩:=DX.1 hq;rw[jd,iY];omega
theorem Join.new (ok:m.Ok)(j:Join m V K (w::Q) rs)(hz:Ie m K)(hn:yH m w≠0):bM rs (bF m w)=true:=by
 cases hg:bM rs (bF m w) with
 | true=>rfl
 | false =>
  refine absurd ?_ hn;have hs:=((Ad j.ech (jl ok w)).1 hg).trans λb hb=>by
   obtain⟨r,hr,rfl⟩:=kK hb;exact j.rows r hr
  refine hs.kill (L:=λu _=>vX m.n u (vf m.fin)) (F6 m.n (vf m.fin)) λb hb=>?_;obtain⟨u,hu,rfl⟩:=kK hb;exact hz u hu
theorem Ie.add (hz:Ie m K)(h:yH m w=0):Ie m (K++[w]):=λu hu=>(uy hu).elim (hz u) λhu=>by rw[jJ hu];exact h
open Classical in
noncomputable def UJ (m:bV):Option (List Int):=if h:∃ o,Ans m o then h.choose else none
theorem Px (h:Ans m o):UJ m=o:=by
 have h':∃ o,Ans m o:=⟨o,h⟩;unfold UJ;rw[dif_pos h'];exact Ans.unique h'.choose_spec h
end
theorem WC {p:Nat->Prop}:∀ n,p n->∃ r,p r/\∀ s,p s->r<=s:=by
 intro n
 induction n using Nat.strongRecOn with
 | ind n ih =>
  intro h;by_cases hx:∃ k,k<n/\p k
  .obtain⟨k,hk,hp⟩:=hx;exact ih k hk hp
  .exact⟨n,h,λs hs=>Decidable.byContradiction λhlt=>hx ⟨s,by omega,hs⟩⟩
def Hy (k:Nat)(f:List Int->Rat):Wd k->Wd k->Rat:=λu l=>f (u.1++l.1.reverse)
theorem aP3 {α β:Type}{H:α->β->Rat}{n:Nat}(h:Pn H n):∃ r,yS H r :=
 have ⟨r,h1,h2⟩:=WC (p:=Pn H) n h
 ⟨r,h1,h2⟩
open Classical in
noncomputable def Ih (k:Nat)(f:List Int->Rat):Nat:=if h:∃ r,yS (Hy k f) r then h.choose else 0
section
variable {m:bV}{k r:Nat}{f g:List Int->Rat}
theorem Py (h:yS (Hy k f) r):Ih k f=r:=by
 have h':∃ r,yS (Hy k f) r:=⟨r,h⟩;unfold Ih;rw[dif_pos h'];exact yS.unique h'.choose_spec h
theorem YR {n:Nat}(h:Pn (Hy k f) n):yS (Hy k f) (Ih k f):=by
 obtain⟨r,hr⟩:=aP3 h;rw[Py hr];exact hr
theorem aP4 {u l:List Int}(hu:iV k u)(hl:iV k l):iV k (u++l.reverse):=λx hx=>(uy hx).elim (hu x) λh=>hl x (List.mem_reverse.1 h)
theorem ak5 (h:∀ w,iV k w->f w=g w):Hy k f=Hy k g:=by
 funext u l;exact h _ (aP4 u.2 l.2)
theorem az6 (m:bV):Pn (Hy m.k (yH m)) m.n :=
 ⟨λu i=>vf (bF m u.1) i,λi l=>vf (bF (aA m) l.1) i,λu l=>(CQ l.1 u.1 l.2).symm⟩
theorem RX (m:bV):yS (Hy m.k (yH m)) (Ih m.k (yH m)):=YR (az6 m)
theorem ak6 {s:Nat}(h:yS (Hy k f) r)(h2:yS (Hy k λw=>f w.reverse) s):s=r:=by
 have e:Hy k (λw=>f w.reverse)=λb a=>Hy k f a b:=by
  funext u l;unfold Hy;show f (u.1++l.1.reverse).reverse=f (l.1++u.1.reverse)
  rw[List.reverse_append,List.reverse_reverse]
 rw[e] at h2;exact h2.unique h.turn
end
end Go.AL
namespace Go.AL
open Go Go.BigFrame
def cI (a b:Nat):Int:=if a<b then -1 else if b<a then 1 else 0
def iT (x y:bU):Int:=if cI x.f y.f≠0 then cI x.f y.f else if cI x.l y.l≠0 then cI x.l y.l else cI x.t y.t
section
variable {x y z:bU}
theorem zU {a b:Nat}:cI a b=0 ↔ a=b:=by
 unfold cI
 split
 .exact⟨λh=>(by cases h),λh=>(by omega)⟩
 .split
  .exact⟨λh=>(by cases h),λh=>(by omega)⟩
  .exact⟨λ_=>(by omega),λ_=>rfl⟩
theorem az7 {a b:Nat}:cI a b<0 ↔ a<b:=by
 unfold cI
 split
 .exact⟨λ_=>by assumption,λ_=>by decide⟩
 .split
  .exact⟨λh=>absurd h (by decide),λh=>by omega⟩
  .exact⟨λh=>absurd h (by decide),λh=>by omega⟩
theorem Ae:iT x y=0 ↔ x.f=y.f/\x.l=y.l/\x.t=y.t:=by
 unfold iT;by_cases h1:cI x.f y.f=0
 .rw[if_neg (by simp[h1])]
  by_cases h2:cI x.l y.l=0
  .rw[if_neg (by simp[h2]),zU]
   exact⟨λh=>⟨zU.1 h1,zU.1 h2,h⟩,λh=>h.2.2⟩
  .rw[if_pos h2];exact⟨λh=>absurd h h2,λh=>absurd (zU.2 h.2.1) h2⟩
 .rw[if_pos h1];exact⟨λh=>absurd h h1,λh=>absurd (zU.2 h.1) h1⟩
theorem yI:iT x y<0 ↔ x.f<y.f \/ (x.f=y.f/\(x.l<y.l \/ (x.l=y.l/\x.t<y.t))):=by
 unfold iT;by_cases h1:cI x.f y.f=0
 .rw[if_neg (by simp[h1])]
  have e1:=zU.1 h1;by_cases h2:cI x.l y.l=0
  .rw[if_neg (by simp[h2]),az7]
   have e2:=zU.1 h2;omega
  .rw[if_pos h2,az7];have e2:x.l≠y.l:=λe=>h2 (zU.2 e);omega
 .rw[if_pos h1,az7];have e1:x.f≠y.f:=λe=>h1 (zU.2 e);omega
end
section
variable {α:Type}[Inhabited α]
def Fj (o:List α)(j:Nat):List α:=(o.set (j+1) (o.getD j default)).set j (o.getD (j+1) default)
def F9 (c:α->α->Bool):Nat->List α->List α
 | 0,o=>o
 | j+1,o=>if c (o.getD (j+1) default) (o.getD j default) then F9 c j (Fj o j) else o
def uj (c:α->α->Bool):Nat->List α->List α
 | 0,o=>o
 | k+1,o=>F9 c (k+1) (uj c k o)
theorem GX (o:List α)(j:Nat):(Fj o j).length=o.length:=by simp[Fj]
theorem RY (c:α->α->Bool):∀ (j:Nat) (o:List α),(F9 c j o).length=o.length
 | 0,o=>rfl
 | j+1,o=>by
  rw[F9]
  split
  .rw[RY c j,GX]
  .rfl
theorem xP (c:α->α->Bool):∀ (k:Nat) (o:List α),(uj c k o).length=o.length
 | 0,o=>rfl
 | k+1,o=>by rw[uj,RY,xP c k]
theorem KR {o:List α}{i j:Nat}{x:α}(h:i<o.length):(o.set i x).getD j default=if i=j then x else o.getD j default:=by
 rw[jh,List.getElem?_set];by_cases e:i=j
 .subst e;rw[if_pos rfl,if_pos h,if_pos rfl];rfl
 .rw[if_neg e,if_neg e,jh]
theorem ak7 {o:List α}{j:Nat}(h:j+1<o.length)(i:Nat):(Fj o j).getD i default=if i=j then o.getD (j+1) default else if i=j+1 then o.getD j default else o.getD i default:=by
 unfold Fj;rw[KR (by rw[List.length_set];omega),KR h]
 by_cases e1:i=j
 .rw[if_pos e1.symm,if_pos e1]
 .rw[if_neg (λe=>e1 e.symm),if_neg e1];by_cases e2:i=j+1
  .rw[if_pos e2.symm,if_pos e2]
  .rw[if_neg (λe=>e2 e.symm),if_neg e2]
theorem Pz:∀ {o:List α} {j:Nat},j+1<o.length->(Fj o j).Perm o
 | [],j,h=>by simp at h
 | [a],j,h=>by simp at h
 | a::b::r,0,h=>by
  show (b::a::r).Perm _
  exact List.Perm.swap ..
 | a::b::r,j+1,h=>by
  have e:Fj (a::b::r) (j+1)=a::Fj (b::r) j:=by simp[Fj]
  rw[e];exact List.Perm.cons a (Pz (by simpa using h))
theorem PE (c:α->α->Bool):∀ {j:Nat} {o:List α},j<o.length->(F9 c j o).Perm o
 | 0,o,_=>.refl _
 | j+1,o,h=>by
  rw[F9]
  split
  .exact (PE c (by rw[GX];omega)).trans (Pz h)
  .exact .refl _
theorem PI (c:α->α->Bool):∀ {k:Nat} {o:List α},k<o.length->(uj c k o).Perm o
 | 0,o,_=>.refl _
 | k+1,o,h=>by
  rw[uj];exact (PE c (by rw[xP];exact h)).trans (PI c (by omega))
def bo2 (c:α->α->Bool)(o:List α)(k:Nat):Prop:=∀ i,i<k->c (o.getD (i+1) default) (o.getD i default)=false
theorem RZ {c:α->α->Bool}(ha:∀ x y,c x y=true->c y x=false){k:Nat}:∀ {j:Nat} {o:List α},j<=k->k<o.length->(∀ i,i<k->i+1≠j->c (o.getD (i+1) default) (o.getD i default)=false)->(∀ i,i+1=j->j+1<=k->c (o.getD (j+1) default) (o.getD i default)=false)->bo2 c (F9 c j o) k
 | 0,o,_,_,h1,_=>λi hi=>h1 i hi (by omega)
 | j + 1, o, hj, hk, h1, h2 => by
  rw[F9]
  split
  .rename_i hc;have hg:=ak7 (o:=o) (j:=j) (by omega)
   refine RZ ha (by omega) (by rw[GX];exact hk) (λi hi hne=>?_) (λi hi hk2=>?_)
   .rw[hg,hg];by_cases e1:i=j
    .subst e1;rw[if_neg (by omega),if_pos rfl,if_pos rfl]
     exact ha _ _ hc
    .by_cases e2:i=j+1
     .subst e2;rw[if_neg (by omega),if_neg (by omega),if_neg (by omega),if_pos rfl]
      exact h2 j rfl hi
     .rw[if_neg (by omega),if_neg (by omega),if_neg e1,if_neg e2]
      exact h1 i hi (by omega)
   .rw[hg,hg,if_neg (by omega),if_pos rfl,if_neg (by omega),if_neg (by omega),<- hi]
    exact h1 i (by omega) (by omega)
  .rename_i hc;intro i hi;by_cases e:i=j
   .subst e;exact Bool.not_eq_true _ ▸ hc
   .exact h1 i hi (by omega)
theorem Si {c:α->α->Bool}(ha:∀ x y,c x y=true->c y x=false):∀ {k:Nat} {o:List α},k<o.length->bo2 c (uj c k o) k
 | 0,o,_=>λi hi=>by omega
 | k+1,o,h=>by
  rw[uj];have h1:=Si ha (k:=k) (o:=o) (by omega)
  exact RZ ha (Nat.le_refl _) (by rw[xP];exact h) (λi hi hne=>h1 i (by omega)) (λi hi hk=>by omega)
end
def Sj (x y:bU):Bool:=decide (iT x y<0)
def sortA (l:List bU):List bU:=uj Sj (l.length-1) l
def kH (out:List bU)(x:bU):List bU :=
 if 0<out.length/\iT (out.getD (out.length-1) default) x=0 then out.set (out.length-1) { out.getD (out.length-1) default with q:=(out.getD (out.length-1) default).q+x.q } else out++[x]
def UK (l:List bU):List bU:=l.filter λx=>decide (x.q≠0)
def dK (l:List bU):List bU:=UK ((sortA l).foldl kH [])
def rG (out:List bU)(x:bU):Nat:=out.findIdx λy=>decide (¬ iT y x<0)
def wX (out:List bU)(x:bU):List bU :=
 if rG out x<out.length/\iT (out.getD (rG out x) default) x=0 then out.set (rG out x) { out.getD (rG out x) default with q:=(out.getD (rG out x) default).q+x.q } else out.take (rG out x)++x::out.drop (rG out x)
def pX (l:List bU):List bU:=UK (l.foldl wX [])
section
variable {l out:List bU}{x y:bU}{s i j:Nat}
def wY (s i j:Nat)(x:bU):Rat:=if x.f=i/\x.l=s+1/\x.t=j then x.q else 0
theorem yT (l m:List bU):jf (l++m) s i j=jf l s i j+jf m s i j:=MI ..
theorem pF (x:bU)(l:List bU):jf (x::l) s i j=wY s i j x+jf l s i j:=rfl
theorem uN:jf [] s i j=0:=rfl
theorem YS {α:Type}{f:α->Rat}{l m:List α}(h:l.Perm m):oD f l=oD f m:=by
 induction h with
 | nil=>rfl
 | cons x _ ih=>rw[oD,oD,ih]
 | swap x y l=>rw[oD,oD,oD,oD,<- Rat.add_assoc,<- Rat.add_assoc,Rat.add_comm (f y)]
 | trans _ _ h1 h2=>exact h1.trans h2
theorem IB (l:List bU):(sortA l).Perm l:=by
 cases l with
 | nil=>exact .refl _
 | cons x r=>exact PI Sj (by simp)
theorem PK {α:Type}{f:α->Rat}:∀ {l:List α},(∀ x,x ∈ l->f x=0)->oD f l=0
 | [],_=>rfl
 | x::l,h=>by rw[oD,h x pU,PK λy hy=>h y (List.mem_cons_of_mem _ hy),Rat.add_zero]
theorem ak8:jf (sortA l) s i j=jf l s i j:=YS (IB l)
theorem MJ {α:Type}{f:α->Rat}{p:α->Bool}:∀ {l:List α},(∀ x,x ∈ l->p x=false->f x=0)->oD f (l.filter p)=oD f l
 | [],_=>rfl
 | x::l,h=>by
  have ih:=MJ (f:=f) (p:=p) (l:=l) λy hy=>h y (List.mem_cons_of_mem _ hy);rw[List.filter_cons];cases hp:p x with
  | true=>rw[if_pos rfl,oD,oD,ih]
  | false=>rw[if_neg (by decide),ih,oD,h x pU hp,Rat.zero_add]
theorem ac1:jf (UK l) s i j=jf l s i j:=MJ λx _ hp=>by
 have h0:x.q=0:=Decidable.byContradiction λh=>by rw[decide_eq_true h] at hp;cases hp
 split
 .exact h0
 .rfl
theorem WE {k:Nat}(hk:k<out.length)(he:iT (out.getD k default) x=0):jf (out.set k { out.getD k default with q:=(out.getD k default).q+x.q }) s i j=jf out s i j+wY s i j x:=by
 have e:out=out.take k++out.getD k default::out.drop (k+1):=by
  rw[jh,lQ hk,Option.getD_some,<- List.drop_eq_getElem_cons hk,List.take_append_drop]
 obtain⟨h1,h2,h3⟩:=Ae.1 he;generalize out.getD k default=y at *;rw[List.set_eq_take_append_cons_drop,if_pos hk]
 conv=>rhs;rw[e]
 rw[yT,yT,pF,pF];have hp:wY s i j { y with q:=y.q+x.q }=wY s i j y+wY s i j x:=by
  unfold wY;show (if y.f=i/\y.l=s+1/\y.t=j then y.q+x.q else 0)=_
  rw[<- h1,<- h2,<- h3]
  split
  .rfl
  .rw[Rat.add_zero]
 rw[hp,Rat.add_assoc,Rat.add_assoc,Rat.add_assoc,Rat.add_comm (wY s i j x)]
theorem YT:jf (kH out x) s i j=jf out s i j+wY s i j x:=by
 unfold kH
 split
 .rename_i h;exact WE (by omega) h.2
 .rw[yT,pF,uN,Rat.add_zero]
theorem az8:jf (wX out x) s i j=jf out s i j+wY s i j x:=by
 unfold wX
 split
 .rename_i h;exact WE h.1 h.2
 .conv=>rhs;rw[<- List.take_append_drop (rG out x) out]
  rw[yT,yT,pF,Rat.add_assoc,Rat.add_comm (wY s i j x)]
theorem KT {g:List bU->bU->List bU}(hg:∀ out x,jf (g out x) s i j=jf out s i j+wY s i j x):∀ (l out:List bU),jf (l.foldl g out) s i j=jf out s i j+jf l s i j
 | [],out=>by rw[List.foldl_nil,uN,Rat.add_zero]
 | x::l,out=>by rw[List.foldl_cons,KT hg l,hg,pF,Rat.add_assoc]
theorem Af:jf (dK l) s i j=jf l s i j:=by
 unfold dK;rw[ac1,KT (λout x=>YT),uN,Rat.zero_add,ak8]
theorem DY:jf (pX l) s i j=jf l s i j:=by
 unfold pX;rw[ac1,KT (λout x=>az8),uN,Rat.zero_add]
def gQ (p:Nat->Nat->Nat->Prop)(l:List bU):Prop:=∀ x,x ∈ l->p x.f x.l x.t
variable {p:Nat->Nat->Nat->Prop}
theorem gQ.set {k:Nat}{q:Rat}(h:gQ p out)(hk:k<out.length):gQ p (out.set k { out.getD k default with q:=q }):=λy hy=>by
 rcases List.mem_or_eq_of_mem_set hy with hy|rfl
 .exact h y hy
 .exact h (out.getD k default) (getD_mem hk default)
theorem gQ.merge (h:gQ p out)(hx:p x.f x.l x.t):gQ p (kH out x):=by
 unfold kH
 split
 .exact h.set (by omega)
 .intro y hy;rcases uy hy with hy|hy
  .exact h y hy
  .rw[jJ hy];exact hx
theorem gQ.ins (h:gQ p out)(hx:p x.f x.l x.t):gQ p (wX out x):=by
 unfold wX
 split
 .rename_i hc;exact h.set hc.1
 .intro y hy;rcases uy hy with hy|hy
  .exact h y (List.mem_of_mem_take hy)
  .rcases List.mem_cons.1 hy with rfl|hy
   .exact hx
   .exact h y (List.mem_of_mem_drop hy)
theorem gQ.fold {g:List bU->bU->List bU}(hg:∀ out x,gQ p out->p x.f x.l x.t->gQ p (g out x)):∀ (l out:List bU),gQ p out->gQ p l->gQ p (l.foldl g out)
 | [],out,h,_=>h
 | x::l,out,h,k=>gQ.fold hg l _ (hg _ _ h (k x pU)) λy hy=>k y (List.mem_cons_of_mem _ hy)
theorem gQ.nz (h:gQ p l):gQ p (UK l):=λy hy=>h y (List.mem_filter.1 hy).1
theorem gQ.sort (h:gQ p l):gQ p (sortA l):=λy hy=>h y ((IB l).mem_iff.1 hy)
theorem gQ.tidy (h:gQ p l):gQ p (dK l):=(gQ.fold (λ_ _ h k=>h.merge k) _ _ (λ_ h=>by cases h) h.sort).nz
theorem gQ.form (h:gQ p l):gQ p (pX l):=(gQ.fold (λ_ _ h k=>h.ins k) _ _ (λ_ h=>by cases h) h).nz
theorem JB {α:Type}[Inhabited α]{R:α->α->Prop}(tr:∀ a b c,R a b->R b c->R a c):∀ {l:List α},(∀ i,i+1<l.length->R (l.getD i default) (l.getD (i+1) default))->l.Pairwise R
 | [],_=>.nil
 | [x],_=>List.pairwise_singleton ..
 | x::y::r,h=>by
  have ih:=JB tr (l:=y::r) λi hi=>h (i+1) (by simpa using hi)
  have h0:R x y:=h 0 (by simp)
  refine List.pairwise_cons.2 ⟨λz hz=>?_,ih⟩;rcases List.mem_cons.1 hz with rfl|hz
  .exact h0
  .exact tr _ _ _ h0 ((List.pairwise_cons.1 ih).1 z hz)
theorem az9 (l:List bU):(sortA l).Pairwise λa b=>¬ iT b a<0:=by
 refine JB (λa b c h k=>?_) λi hi=>?_
 .rw[yI] at *;omega
 .have hl:(sortA l).length=l.length:=xP ..;have h:=Si (c:=Sj) (λx y h=>decide_eq_false (by have:=lK h;rw[yI] at *;omega)) (k:=l.length-1) (o:=l) (by omega) i (by omega)
  exact nZ h
theorem GY:∀ (l out:List bU),out.Pairwise (λa b=>iT a b<0)->l.Pairwise (λa b=>¬ iT b a<0)->(∀ a,a ∈ out->∀ b,b ∈ l->¬ iT b a<0)->(l.foldl kH out).Pairwise λa b=>iT a b<0
 | [],out,h,_,_=>h
 | x :: l, out, h, hl, hb => by
  obtain⟨hl1,hl2⟩:=List.pairwise_cons.1 hl;rw[List.foldl_cons];have hx:=λa ha=>hb a ha x pU;rcases List.eq_nil_or_concat out with rfl|⟨o,y,rfl⟩
  .refine GY l _ ?_ hl2 ?_
   .show List.Pairwise _ (kH [] x)
    unfold kH;rw[if_neg (by simp)]
    exact List.pairwise_singleton ..
   .unfold kH;rw[if_neg (by simp)]
    intro a ha;rw[jJ ha];exact hl1
  .rw[List.concat_eq_append] at *;have hlast:(o++[y]).getD ((o++[y]).length-1) default=y:=by
    rw[jd,iY,Nat.add_sub_cancel,jh,List.getElem?_append_right (Nat.le_refl _),Nat.sub_self];rfl
   obtain⟨p1,_,p3⟩:=List.pairwise_append.1 h;unfold kH;rw[hlast]
   split
   .rename_i hc;rw[show (o++[y]).set ((o++[y]).length-1) { y with q:=y.q+x.q }=o++[{ y with q:=y.q+x.q }] by
     rw[jd,iY,Nat.add_sub_cancel,List.set_append_right _ _ (Nat.le_refl _),Nat.sub_self];rfl]
    have e0:∀ a,iT a { y with q:=y.q+x.q }=iT a y:=λa=>rfl
    have e1:∀ b,iT b { y with q:=y.q+x.q }=iT b y:=λa=>rfl
    refine GY l _ (List.pairwise_append.2 ⟨p1,List.pairwise_singleton ..,λa ha b hb'=>?_⟩) hl2 λa ha b hb'=>?_
    .rw[jJ hb',e0];exact p3 a ha y (List.mem_singleton.2 rfl)
    .rcases uy ha with ha|ha
     .exact hb a (List.mem_append.2 (.inl ha)) b (List.mem_cons_of_mem _ hb')
     .rw[jJ ha,e1];exact hb y (List.mem_append.2 (.inr (List.mem_singleton.2 rfl))) b (List.mem_cons_of_mem _ hb')
   .rename_i hc;have hyx:iT y x<0:=by
     have h1:iT y x≠0:=λe=>hc ⟨by simp,e⟩
     have h2:=hx y (List.mem_append.2 (.inr (List.mem_singleton.2 rfl)));rw[yI] at h2 ⊢;rw[Ne,Ae] at h1;omega
    refine GY l _ (List.pairwise_append.2 ⟨h,List.pairwise_singleton ..,λa ha b hb'=>?_⟩) hl2 λa ha b hb'=>?_
    .rw[jJ hb'];rcases uy ha with ha|ha
     .have:=p3 a ha y (List.mem_singleton.2 rfl);rw[yI] at *;omega
     .rw[jJ ha];exact hyx
    .rcases uy ha with ha|ha
     .exact hb a ha b (List.mem_cons_of_mem _ hb')
     .rw[jJ ha];exact hl1 b hb'
theorem JC (l:List bU):(dK l).Pairwise λa b=>iT a b<0 :=
 List.Pairwise.filter _ (GY _ _ .nil (az9 l) λ_ h=>by cases h)
theorem Bv:∀ {l:List bU},l.Pairwise (λa b=>iT a b<0)->x ∈ l->1<=x.l->jf l (x.l-1) x.f x.t=x.q
 | y :: l, hp, hx, h1 => by
  obtain⟨p1,p2⟩:=List.pairwise_cons.1 hp;rw[pF];rcases List.mem_cons.1 hx with rfl|hx
  .have hz:jf l (x.l-1) x.f x.t=0:=by
    unfold jf;refine (PK λz hz=>?_);have:=p1 z hz;rw[yI] at this;rw[if_neg (by omega)]
   rw[hz,Rat.add_zero];unfold wY;rw[if_pos ⟨rfl,by omega,rfl⟩]
  .have:=p1 x hx;rw[yI] at this;rw[Bv p2 hx h1];unfold wY;rw[if_neg (by omega),Rat.zero_add]

/-
  M, chapter 23: arcs in order, merged; sums, multiples and reversals of automata.
-/
import Derived.Test.YtnjoncgnjdkaoaaGreatDoorKMod75
set_option linter.unusedVariables false
set_option linter.unusedSimpArgs false
namespace Go.AL
open Go Go.BigFrame
def Ko (B:Nat)(rs:List bJ):Prop:=∀ k r,rs[k]? = some r->(∀ i,sz (r.v.getD i 0)+1<=4 ^ k*(B+1))/\∀ i,sz (r.c.getD i 0)+1<=4 ^ k*(B+1)
section
variable {B:Nat}{rs:List bJ}{w t:List Rat}
theorem Ho {f:Nat->Rat}{C:Nat}(n:Nat)(hC:1<=C)(h:∀ i,sz (f i)<=C)(i:Nat):sz (((List.range n).map f).getD i 0)<=C:=by
 rcases Nat.lt_or_ge i n with hi|hi
 .rw[aK _ _ hi];exact h i
 .rw[gI,List.getElem?_eq_none (by simp;exact hi),Option.getD_none,fK];exact hC
theorem V8 {r:bJ}{C:Nat}(hw:∀ i,sz (w.getD i 0)+1<=C)(hr:∀ i,sz (r.v.getD i 0)+1<=C):sz (ou w r)+2<=2*C:=by
 have h:=LW (w.getD r.p 0) (r.v.getD r.p 0);have h1:=hw r.p;have h2:=hr r.p;unfold ou;omega
theorem Hq {r:bJ}{C:Nat}(hw:∀ i,sz (w.getD i 0)+1<=C)(hr:∀ i,sz (r.v.getD i 0)+1<=C)(i:Nat):sz ((iQ w r).getD i 0)+1<=4*C:=by
 have hC:1<=C:=Nat.le_trans (Nat.le_add_left 1 _) (hw 0);have key:sz ((iQ w r).getD i 0)<=4*C-1:=Ho w.length (f:=λi=>w.getD i 0-ou w r*r.v.getD i 0) (by omega) (λi=>by
  have h1:=QR (w.getD i 0) (ou w r*r.v.getD i 0);have h2:=lU (ou w r) (r.v.getD i 0);have h3:=V8 hw hr;have h4:=hw i;have h5:=hr i;omega) i
 omega
theorem az1 {r:bJ}{C:Nat}(hw:∀ i,sz (w.getD i 0)+1<=C)(ht:∀ i,sz (t.getD i 0)+1<=C)(hr:∀ i,sz (r.v.getD i 0)+1<=C)(hc:∀ i,sz (r.c.getD i 0)+1<=C)(i:Nat):sz ((F9 t (ou w r) r.c).getD i 0)+1<=4*C:=by
 have hC:1<=C:=Nat.le_trans (Nat.le_add_left 1 _) (hw 0);have key:sz ((F9 t (ou w r) r.c).getD i 0)<=4*C-1:=Ho t.length (f:=λi=>t.getD i 0+ou w r*r.c.getD i 0) (by omega) (λi=>by
  have h1:=AB (t.getD i 0) (ou w r*r.c.getD i 0);have h2:=lU (ou w r) (r.c.getD i 0);have h3:=V8 hw hr;have h4:=ht i;have h5:=hc i;omega) i
 omega
theorem XO:∀ (rs:List bJ) (j:Nat) (w:List Rat),(∀ k r,rs[k]? = some r->∀ i,sz (r.v.getD i 0)+1<=4 ^ (j+k)*(B+1))->(∀ i,sz (w.getD i 0)+1<=4 ^ j*(B+1))->∀ i,sz ((aQ rs w).getD i 0)+1<=4 ^ (j+rs.length)*(B+1)
 | [],_,_,_,hw,i=>hw i
 | r :: rs, j, w, h, hw, i => by
  have h0:=h 0 r rfl;rw[Nat.add_zero] at h0;have:=XO rs (j+1) (iQ w r) (λk q hq=>by
   have:=h (k+1) q hq
   rwa [show j+(k+1)=j+1+k by omega] at this) (λi=>by
   have:=Hq hw h0 i
   rwa [Nat.pow_succ,Nat.mul_comm (4 ^ j),Nat.mul_assoc]) i
  rwa [aQ,List.length_cons,show j+(rs.length+1)=j+1+rs.length by omega]
theorem TW:∀ (rs:List bJ) (j:Nat) (w t:List Rat),(∀ k r,rs[k]? = some r->(∀ i,sz (r.v.getD i 0)+1<=4 ^ (j+k)*(B+1))/\∀ i,sz (r.c.getD i 0)+1<=4 ^ (j+k)*(B+1))->(∀ i,sz (w.getD i 0)+1<=4 ^ j*(B+1))->(∀ i,sz (t.getD i 0)+1<=4 ^ j*(B+1)) ->
  ∀ i,sz ((tX rs w t).getD i 0)+1<=4 ^ (j+rs.length)*(B+1)
 | [],_,_,_,_,_,ht,i=>ht i
 | r :: rs, j, w, t, h, hw, ht, i => by
  have h0:=h 0 r rfl;rw[Nat.add_zero] at h0;have:=TW rs (j+1) (iQ w r) (F9 t (ou w r) r.c) (λk q hq=>by
   have:=h (k+1) q hq
   rwa [show j+(k+1)=j+1+k by omega] at this) (λi=>by
   have:=Hq hw h0.1 i
   rwa [Nat.pow_succ,Nat.mul_comm (4 ^ j),Nat.mul_assoc]) (λi=>by
   have:=az1 hw ht h0.1 h0.2 i
   rwa [Nat.pow_succ,Nat.mul_comm (4 ^ j),Nat.mul_assoc]) i
  rwa [tX,List.length_cons,show j+(rs.length+1)=j+1+rs.length by omega]
theorem Ko.nil:Ko B []:=λk r h=>by cases h
theorem Ko.take (h:Ko B rs)(j:Nat):Ko B (rs.take j):=λk r hk=>by
 rw[List.getElem?_take] at hk
 split at hk
 .exact h k r hk
 .cases hk
theorem Ko.red (h:Ko B rs)(hw:∀ i,sz (w.getD i 0)<=B)(i:Nat):sz ((aQ rs w).getD i 0)+1<=4 ^ rs.length*(B+1):=by
 have:=XO rs 0 w (λk r hk=>by rw[Nat.zero_add];exact (h k r hk).1) (λi=>by rw[Nat.pow_zero,Nat.one_mul];have:=hw i;omega) i
 rwa [Nat.zero_add] at this
theorem MJ (n i:Nat):(List.replicate n (0:Rat)).getD i 0=0:=by
 rw[gI,List.getElem?_replicate]
 split <;> rfl
theorem Ko.tX (h:Ko B rs)(h1:1<=B)(hw:∀ i,sz (w.getD i 0)<=B)(n i:Nat):sz ((Go.AL.tX rs w (List.replicate n 0)).getD i 0)+1<=4 ^ rs.length*(B+1):=by
 have:=TW rs 0 w (List.replicate n 0) (λk r hk=>by rw[Nat.zero_add];exact h k r hk) (λi=>by rw[Nat.pow_zero,Nat.one_mul];have:=hw i;omega) (λi=>by rw[Nat.pow_zero,Nat.one_mul,MJ,fK];omega) i
 rwa [Nat.zero_add] at this
theorem TY (k:Nat):1<=4 ^ k:=Nat.one_le_pow _ _ (by decide)
theorem Ko.TQ (h:Ko B rs)(h1:1<=B)(hw:∀ i,sz (w.getD i 0)<=B)(i:Nat):sz ((Go.AL.TQ rs w).getD i 0)+1<=4 ^ rs.length*(B+1):=by
 have hp:B+1<=4 ^ rs.length*(B+1):=Nat.le_mul_of_pos_left _ (TY _);have hl:((bZ rs w).map λx=>-x).length=(bZ rs w).length:=dD ..;unfold Go.AL.TQ;rw[gI];rcases Nat.lt_or_ge i (bZ rs w).length with hi|hi
 .rw[List.getElem?_append_left (by rw[hl];exact hi),List.getElem?_map,kL hi,Option.map_some,Option.getD_some,IA]
  have:=h.tX h1 hw rs.length i;rw[gI,show Go.AL.tX rs w (List.replicate rs.length 0)=bZ rs w from rfl,kL hi,Option.getD_some] at this
  exact this
 .rw[List.getElem?_append_right (by rw[hl];exact hi),hl]
  rcases Nat.eq_zero_or_pos (i-(bZ rs w).length) with h0|h0
  .rw[h0];show sz 1+1<=_
   rw[Ld];omega
  .rw[List.getElem?_eq_none (by rw[jL];exact h0),Option.getD_none,fK];omega
theorem Ko.grow (h:Ko B rs)(h1:1<=B)(hw:∀ i,sz (w.getD i 0)<=B):Ko B (rs++[newR rs w]):=λk r hk=>by
 rcases Nat.lt_or_ge k rs.length with hi|hi
 .rw[List.getElem?_append_left hi] at hk;exact h k r hk
 .rw[List.getElem?_append_right hi] at hk;rcases Nat.eq_zero_or_pos (k-rs.length) with h0|h0
  .rw[h0] at hk;cases hk
   have e:k=rs.length:=by omega
   subst e;exact⟨λi=>h.red hw i,λi=>h.TQ h1 hw i⟩
  .rw[List.getElem?_eq_none (by rw[jL];exact h0)] at hk;cases hk
theorem Ko.add (h:Ko B rs)(h1:1<=B)(hw:∀ i,sz (w.getD i 0)<=B):Ko B (vw rs w):=by
 unfold vw
 split
 .exact h.grow h1 hw
 .exact h
end
def Ans (m:dZ):Option (List Int)->Prop
 | none=>∀ w,iV m.k w->wW m w=0
 | some w=>Dn m w
section
variable {m m2:dZ}{V K Q:List (List Int)}{rs:List bJ}{w:List Int}{o p:Option (List Int)}
theorem Ans.unique (h:Ans m o)(k:Ans m p):o=p:=by
 cases o with
 | none =>
  cases p with
  | none=>rfl
  | some w=>exact absurd (h w k.xB) k.nz
 | some v =>
  cases p with
  | none=>exact absurd (k v h.xB) h.nz
  | some w=>rw[Dn.unique h k]
theorem Ans.congr (hk:m2.k=m.k)(e:∀ w,iV m.k w->(wW m w=0 ↔ wW m2 w=0))(h:Ans m o):Ans m2 o:=by
 cases o with
 | none=>exact λw hw=>(e w (hk ▸ hw)).1 (h w (hk ▸ hw))
 | some v=>exact⟨hk ▸ h.xB,λz=>h.nz ((e v h.xB).2 z),λu hu hl=>(e u (hk ▸ hu)).1 (h.before u (hk ▸ hu) hl)⟩
structure Dp (K Q:List (List Int)):Prop where
 kept:∀ (i:Nat) (u:List Int),K[i]? = some u->u.length<=i
 open_:∀ q:List Int,q ∈ Q->q.length<=K.length
theorem Dp.start:Dp [] [[]]:=⟨λi u h=>(by cases h),λq h=>(by rw[kJ h];exact Nat.le_refl _)⟩
theorem Dp.drop (h:Dp K (w::Q)):Dp K Q:=⟨h.kept,λq hq=>h.open_ q (List.mem_cons_of_mem _ hq)⟩
theorem Dp.keep {k:Nat}(h:Dp K (w::Q)):Dp (K++[w]) (Q++dh k w):=by
 have hw:=h.open_ w vC;refine⟨λi u hi=>?_,λq hq=>?_⟩
 .rcases Nat.lt_or_ge i K.length with hl|hl
  .rw[List.getElem?_append_left hl] at hi;exact h.kept i u hi
  .rw[List.getElem?_append_right hl] at hi;rcases Nat.eq_zero_or_pos (i-K.length) with h0|h0
   .rw[h0] at hi;cases hi;omega
   .rw[List.getElem?_eq_none (by rw[jL];exact h0)] at hi;cases hi
 .rw[iU,jL];rcases rD hq with hq|hq
  .have:=h.open_ q (List.mem_cons_of_mem _ hq);omega
  .obtain⟨s,_,rfl⟩:=rf.1 hq;rw[iU,jL];omega
theorem Join.new (ok:m.Ok)(j:Join m V K (w::Q) rs)(hz:FN m K)(hn:wW m w≠0):bg rs (bQ m w)=true:=by
 cases hg:bg rs (bQ m w) with
 | true=>rfl
 | false =>
  refine absurd ?_ hn;have hs:=((Bv j.ech (xw ok w)).1 hg).trans λb hb=>by
   obtain⟨r,hr,rfl⟩:=jY hb;exact j.rows r hr
  refine hs.kill (L:=λu _=>Bl m.n u (vf m.fin)) (Eb m.n (vf m.fin)) λb hb=>?_;obtain⟨u,hu,rfl⟩:=jY hb;exact hz u hu
theorem FN.add (hz:FN m K)(h:wW m w=0):FN m (K++[w]):=λu hu=>(rD hu).elim (hz u) λhu=>by rw[kJ hu];exact h
open Classical in
noncomputable def Q8 (m:dZ):Option (List Int):=if h:∃ o,Ans m o then h.choose else none
theorem MK (h:Ans m o):Q8 m=o:=by
 have h':∃ o,Ans m o:=⟨o,h⟩;unfold Q8;rw[dif_pos h'];exact Ans.unique h'.choose_spec h
end
theorem Ua {p:Nat->Prop}:∀ n,p n->∃ r,p r/\∀ s,p s->r<=s:=by
 intro n
 induction n using Nat.strongRecOn with
 | ind n ih =>
  intro h;by_cases hx:∃ k,k<n/\p k
  .obtain⟨k,hk,hp⟩:=hx;exact ih k hk hp
  .exact⟨n,h,λs hs=>Decidable.byContradiction λhlt=>hx ⟨s,by omega,hs⟩⟩
def zD (k:Nat)(f:List Int->Rat):Wd k->Wd k->Rat:=λu l=>f (u.1++l.1.reverse)
theorem az2 {α β:Type}{H:α->β->Rat}{n:Nat}(h:IL H n):∃ r,xC H r :=
 have ⟨r,h1,h2⟩:=Ua (p:=IL H) n h
 ⟨r,h1,h2⟩
open Classical in
noncomputable def Bz (k:Nat)(f:List Int->Rat):Nat:=if h:∃ r,xC (zD k f) r then h.choose else 0
section
variable {m:dZ}{k r:Nat}{f g:List Int->Rat}
theorem Hr (h:xC (zD k f) r):Bz k f=r:=by
 have h':∃ r,xC (zD k f) r:=⟨r,h⟩;unfold Bz;rw[dif_pos h'];exact xC.unique h'.choose_spec h
theorem V9 {n:Nat}(h:IL (zD k f) n):xC (zD k f) (Bz k f):=by
 obtain⟨r,hr⟩:=az2 h;rw[Hr hr];exact hr
theorem az3 {u l:List Int}(hu:iV k u)(hl:iV k l):iV k (u++l.reverse):=λx hx=>(rD hx).elim (hu x) λh=>hl x (List.mem_reverse.1 h)
theorem Za (h:∀ w,iV k w->f w=g w):zD k f=zD k g:=by
 funext u l;exact h _ (az3 u.2 l.2)
theorem Ub (m:dZ):IL (zD m.k (wW m)) m.n :=
 ⟨λu i=>vf (bQ m u.1) i,λi l=>vf (bQ (bI m) l.1) i,λu l=>(yg l.1 u.1 l.2).symm⟩
theorem E9 (m:dZ):xC (zD m.k (wW m)) (Bz m.k (wW m)):=V9 (Ub m)
theorem XP (m:dZ):Bz m.k (wW m)<=m.n:=(E9 m).least _ (Ub m)
theorem Zb {s:Nat}(h:xC (zD k f) r)(h2:xC (zD k λw=>f w.reverse) s):s=r:=by
 have e:zD k (λw=>f w.reverse)=λb a=>zD k f a b:=by
  funext u l;unfold zD;show f (u.1++l.1.reverse).reverse=f (l.1++u.1.reverse)
  rw[List.reverse_append,List.reverse_reverse]
 rw[e] at h2;exact h2.unique h.turn
end
end Go.AL
namespace Go.AL
open Go Go.BigFrame
def cI (a b:Nat):Int:=if a<b then -1 else if b<a then 1 else 0
def oV (x y:bD):Int:=if cI x.f y.f≠0 then cI x.f y.f else if cI x.l y.l≠0 then cI x.l y.l else cI x.t y.t
section
variable {x y z:bD}
theorem yh {a b:Nat}:cI a b=0 ↔ a=b:=by
 unfold cI
 split
 .exact⟨λh=>(by cases h),λh=>(by omega)⟩
 .split
  .exact⟨λh=>(by cases h),λh=>(by omega)⟩
  .exact⟨λ_=>(by omega),λ_=>rfl⟩
theorem ai0 {a b:Nat}:cI a b<0 ↔ a<b:=by
 unfold cI
 split
 .exact⟨λ_=>by assumption,λ_=>by decide⟩
 .split
  .exact⟨λh=>absurd h (by decide),λh=>by omega⟩
  .exact⟨λh=>absurd h (by decide),λh=>by omega⟩
theorem Ph:oV x y=0 ↔ x.f=y.f/\x.l=y.l/\x.t=y.t:=by
 unfold oV;by_cases h1:cI x.f y.f=0
 .rw[if_neg (by simp[h1])]
  by_cases h2:cI x.l y.l=0
  .rw[if_neg (by simp[h2]),yh]
   exact⟨λh=>⟨yh.1 h1,yh.1 h2,h⟩,λh=>h.2.2⟩
  .rw[if_pos h2];exact⟨λh=>absurd h h2,λh=>absurd (yh.2 h.2.1) h2⟩
 .rw[if_pos h1];exact⟨λh=>absurd h h1,λh=>absurd (yh.2 h.1) h1⟩
theorem Fa:oV x y<0 ↔ x.f<y.f \/ (x.f=y.f/\(x.l<y.l \/ (x.l=y.l/\x.t<y.t))):=by
 unfold oV;by_cases h1:cI x.f y.f=0
 .rw[if_neg (by simp[h1])]
  have e1:=yh.1 h1;by_cases h2:cI x.l y.l=0
  .rw[if_neg (by simp[h2]),ai0]
   have e2:=yh.1 h2;omega
  .rw[if_pos h2,ai0];have e2:x.l≠y.l:=λe=>h2 (yh.2 e);omega
 .rw[if_pos h1,ai0];have e1:x.f≠y.f:=λe=>h1 (yh.2 e);omega
end
section
variable {α:Type}[Inhabited α]
def Dy (o:List α)(j:Nat):List α:=(o.set (j+1) (o.getD j default)).set j (o.getD (j+1) default)
def Ec (c:α->α->Bool):Nat->List α->List α
 | 0,o=>o
 | j+1,o=>if c (o.getD (j+1) default) (o.getD j default) then Ec c j (Dy o j) else o
def rC (c:α->α->Bool):Nat->List α->List α
 | 0,o=>o
 | k+1,o=>Ec c (k+1) (rC c k o)
theorem Fb (o:List α)(j:Nat):(Dy o j).length=o.length:=by simp[Dy]
theorem Pj (c:α->α->Bool):∀ (j:Nat) (o:List α),(Ec c j o).length=o.length
 | 0,o=>rfl
 | j+1,o=>by
  rw[Ec]
  split
  .rw[Pj c j,Fb]
  .rfl
theorem vY (c:α->α->Bool):∀ (k:Nat) (o:List α),(rC c k o).length=o.length
 | 0,o=>rfl
 | k+1,o=>by rw[rC,Pj,vY c k]
theorem IQ {o:List α}{i j:Nat}{x:α}(h:i<o.length):(o.set i x).getD j default=if i=j then x else o.getD j default:=by
 rw[gI,List.getElem?_set];by_cases e:i=j
 .subst e;rw[if_pos rfl,if_pos h,if_pos rfl];rfl
 .rw[if_neg e,if_neg e,gI]
theorem Zc {o:List α}{j:Nat}(h:j+1<o.length)(i:Nat):(Dy o j).getD i default=if i=j then o.getD (j+1) default else if i=j+1 then o.getD j default else o.getD i default:=by
 unfold Dy;rw[IQ (by rw[List.length_set];omega),IQ h]
 by_cases e1:i=j
 .rw[if_pos e1.symm,if_pos e1]
 .rw[if_neg (λe=>e1 e.symm),if_neg e1];by_cases e2:i=j+1
  .rw[if_pos e2.symm,if_pos e2]
  .rw[if_neg (λe=>e2 e.symm),if_neg e2]
theorem ML:∀ {o:List α} {j:Nat},j+1<o.length->(Dy o j).Perm o
 | [],j,h=>by simp at h
 | [a],j,h=>by simp at h
 | a::b::r,0,h=>by
  show (b::a::r).Perm _
  exact List.Perm.swap ..
 | a::b::r,j+1,h=>by
  have e:Dy (a::b::r) (j+1)=a::Dy (b::r) j:=by simp[Dy]
  rw[e];exact List.Perm.cons a (ML (by simpa using h))
theorem MN (c:α->α->Bool):∀ {j:Nat} {o:List α},j<o.length->(Ec c j o).Perm o
 | 0,o,_=>.refl _
 | j+1,o,h=>by
  rw[Ec]
  split
  .exact (MN c (by rw[Fb];omega)).trans (ML h)
  .exact .refl _
theorem MO (c:α->α->Bool):∀ {k:Nat} {o:List α},k<o.length->(rC c k o).Perm o
 | 0,o,_=>.refl _
 | k+1,o,h=>by
  rw[rC];exact (MN c (by rw[vY];exact h)).trans (MO c (by omega))
def aX3 (c:α->α->Bool)(o:List α)(k:Nat):Prop:=∀ i,i<k->c (o.getD (i+1) default) (o.getD i default)=false
theorem Pm {c:α->α->Bool}(ha:∀ x y,c x y=true->c y x=false){k:Nat}:∀ {j:Nat} {o:List α},j<=k->k<o.length->(∀ i,i<k->i+1≠j->c (o.getD (i+1) default) (o.getD i default)=false)->(∀ i,i+1=j->j+1<=k->c (o.getD (j+1) default) (o.getD i default)=false)->aX3 c (Ec c j o) k
 | 0,o,_,_,h1,_=>λi hi=>h1 i hi (by omega)
 | j + 1, o, hj, hk, h1, h2 => by
  rw[Ec]
  split
  .rename_i hc;have hg:=Zc (o:=o) (j:=j) (by omega)
   refine Pm ha (by omega) (by rw[Fb];exact hk) (λi hi hne=>?_) (λi hi hk2=>?_)
   .rw[hg,hg];by_cases e1:i=j
    .subst e1;rw[if_neg (by omega),if_pos rfl,if_pos rfl]
     exact ha _ _ hc
    .by_cases e2:i=j+1
     .subst e2;rw[if_neg (by omega),if_neg (by omega),if_neg (by omega),if_pos rfl]
      exact h2 j rfl hi
     .rw[if_neg (by omega),if_neg (by omega),if_neg e1,if_neg e2]
      exact h1 i hi (by omega)
   .rw[hg,hg,if_neg (by omega),if_pos rfl,if_neg (by omega),if_neg (by omega),<- hi]
    exact h1 i (by omega) (by omega)
  .rename_i hc;intro i hi;by_cases e:i=j
   .subst e;exact Bool.not_eq_true _ ▸ hc
   .exact h1 i hi (by omega)
theorem Pn {c:α->α->Bool}(ha:∀ x y,c x y=true->c y x=false):∀ {k:Nat} {o:List α},k<o.length->aX3 c (rC c k o) k
 | 0,o,_=>λi hi=>by omega
 | k+1,o,h=>by
  rw[rC];have h1:=Pn ha (k:=k) (o:=o) (by omega)
  exact Pm ha (Nat.le_refl _) (by rw[vY];exact h) (λi hi hne=>h1 i (by omega)) (λi hi hk=>by omega)
end
def Po (x y:bD):Bool:=decide (oV x y<0)
def sortA (l:List bD):List bD:=rC Po (l.length-1) l
def jK (out:List bD)(x:bD):List bD :=
 if 0<out.length/\oV (out.getD (out.length-1) default) x=0 then out.set (out.length-1) { out.getD (out.length-1) default with q:=(out.getD (out.length-1) default).q+x.q } else out++[x]
def RN (l:List bD):List bD:=l.filter λx=>decide (x.q≠0)
def vH (l:List bD):List bD:=RN ((sortA l).foldl jK [])
def tC (out:List bD)(x:bD):Nat:=out.findIdx λy=>decide (¬ oV y x<0)
def zF (out:List bD)(x:bD):List bD :=
 if tC out x<out.length/\oV (out.getD (tC out x) default) x=0 then out.set (tC out x) { out.getD (tC out x) default with q:=(out.getD (tC out x) default).q+x.q } else out.take (tC out x)++x::out.drop (tC out x)
def qH (l:List bD):List bD:=RN (l.foldl zF [])
section
variable {l out:List bD}{x y:bD}{s i j:Nat}
def xE (s i j:Nat)(x:bD):Rat:=if x.f=i/\x.l=s+1/\x.t=j then x.q else 0
theorem Ed (l m:List bD):jd (l++m) s i j=jd l s i j+jd m s i j:=JD ..
theorem vZ (x:bD)(l:List bD):jd (x::l) s i j=xE s i j x+jd l s i j:=rfl
theorem Ee:jd [] s i j=0:=rfl
theorem Wh {α:Type}{f:α->Rat}{l m:List α}(h:l.Perm m):jD f l=jD f m:=by
 induction h with
 | nil=>rfl
 | cons x _ ih=>rw[jD,jD,ih]
 | swap x y l=>rw[jD,jD,jD,jD,<- Rat.add_assoc,<- Rat.add_assoc,Rat.add_comm (f y)]
 | trans _ _ h1 h2=>exact h1.trans h2
theorem Gh (l:List bD):(sortA l).Perm l:=by
 cases l with
 | nil=>exact .refl _
 | cons x r=>exact MO Po (by simp)
theorem aH7 {α:Type}{f:α->Rat}:∀ {l:List α},(∀ x,x ∈ l->f x=0)->jD f l=0
 | [],_=>rfl
 | x::l,h=>by rw[jD,h x vC,aH7 λy hy=>h y (List.mem_cons_of_mem _ hy),Rat.add_zero]
theorem Zd:jd (sortA l) s i j=jd l s i j:=Wh (Gh l)
theorem JF {α:Type}{f:α->Rat}{p:α->Bool}:∀ {l:List α},(∀ x,x ∈ l->p x=false->f x=0)->jD f (l.filter p)=jD f l
 | [],_=>rfl
 | x::l,h=>by
  have ih:=JF (f:=f) (p:=p) (l:=l) λy hy=>h y (List.mem_cons_of_mem _ hy);rw[List.filter_cons];cases hp:p x with
  | true=>rw[if_pos rfl,jD,jD,ih]
  | false=>rw[if_neg (by decide),ih,jD,h x vC hp,Rat.zero_add]
theorem XQ:jd (RN l) s i j=jd l s i j:=JF λx _ hp=>by
 have h0:x.q=0:=Decidable.byContradiction λh=>by rw[decide_eq_true h] at hp;cases hp
 split
 .exact h0
 .rfl
theorem Uc {k:Nat}(hk:k<out.length)(he:oV (out.getD k default) x=0):jd (out.set k { out.getD k default with q:=(out.getD k default).q+x.q }) s i j=jd out s i j+xE s i j x:=by
 have e:out=out.take k++out.getD k default::out.drop (k+1):=by
  rw[gI,kL hk,Option.getD_some,<- List.drop_eq_getElem_cons hk,List.take_append_drop]
 obtain⟨h1,h2,h3⟩:=Ph.1 he;generalize out.getD k default=y at *;rw[List.set_eq_take_append_cons_drop,if_pos hk]
 conv=>rhs;rw[e]
 rw[Ed,Ed,vZ,vZ];have hp:xE s i j { y with q:=y.q+x.q }=xE s i j y+xE s i j x:=by
  unfold xE;show (if y.f=i/\y.l=s+1/\y.t=j then y.q+x.q else 0)=_
  rw[<- h1,<- h2,<- h3]
  split
  .rfl
  .rw[Rat.add_zero]
 rw[hp,Rat.add_assoc,Rat.add_assoc,Rat.add_assoc,Rat.add_comm (xE s i j x)]
theorem Wi:jd (jK out x) s i j=jd out s i j+xE s i j x:=by
 unfold jK
 split
 .rename_i h;exact Uc (by omega) h.2
 .rw[Ed,vZ,Ee,Rat.add_zero]
theorem ai1:jd (zF out x) s i j=jd out s i j+xE s i j x:=by
 unfold zF
 split
 .rename_i h;exact Uc h.1 h.2
 .conv=>rhs;rw[<- List.take_append_drop (tC out x) out]
  rw[Ed,Ed,vZ,Rat.add_assoc,Rat.add_comm (xE s i j x)]
theorem IU {g:List bD->bD->List bD}(hg:∀ out x,jd (g out x) s i j=jd out s i j+xE s i j x):∀ (l out:List bD),jd (l.foldl g out) s i j=jd out s i j+jd l s i j
 | [],out=>by rw[List.foldl_nil,Ee,Rat.add_zero]
 | x::l,out=>by rw[List.foldl_cons,IU hg l,hg,vZ,Rat.add_assoc]
theorem IV:jd (vH l) s i j=jd l s i j:=by
 unfold vH;rw[XQ,IU (λout x=>Wi),Ee,Rat.zero_add,Zd]
theorem Fe:jd (qH l) s i j=jd l s i j:=by
 unfold qH;rw[XQ,IU (λout x=>ai1),Ee,Rat.zero_add]
def ig (p:Nat->Nat->Nat->Prop)(l:List bD):Prop:=∀ x,x ∈ l->p x.f x.l x.t
variable {p:Nat->Nat->Nat->Prop}
theorem ig.set {k:Nat}{q:Rat}(h:ig p out)(hk:k<out.length):ig p (out.set k { out.getD k default with q:=q }):=λy hy=>by
 rcases List.mem_or_eq_of_mem_set hy with hy|rfl
 .exact h y hy
 .exact h (out.getD k default) (getD_mem hk default)
theorem ig.merge (h:ig p out)(hx:p x.f x.l x.t):ig p (jK out x):=by
 unfold jK
 split
 .exact h.set (by omega)
 .intro y hy;rcases rD hy with hy|hy
  .exact h y hy
  .rw[kJ hy];exact hx
theorem ig.ins (h:ig p out)(hx:p x.f x.l x.t):ig p (zF out x):=by
 unfold zF
 split
 .rename_i hc;exact h.set hc.1
 .intro y hy;rcases rD hy with hy|hy
  .exact h y (List.mem_of_mem_take hy)
  .rcases List.mem_cons.1 hy with rfl|hy
   .exact hx
   .exact h y (List.mem_of_mem_drop hy)
theorem ig.fold {g:List bD->bD->List bD}(hg:∀ out x,ig p out->p x.f x.l x.t->ig p (g out x)):∀ (l out:List bD),ig p out->ig p l->ig p (l.foldl g out)
 | [],out,h,_=>h
 | x::l,out,h,k=>ig.fold hg l _ (hg _ _ h (k x vC)) λy hy=>k y (List.mem_cons_of_mem _ hy)
theorem ig.nz (h:ig p l):ig p (RN l):=λy hy=>h y (List.mem_filter.1 hy).1
theorem ig.sort (h:ig p l):ig p (sortA l):=λy hy=>h y ((Gh l).mem_iff.1 hy)
theorem ig.tidy (h:ig p l):ig p (vH l):=(ig.fold (λ_ _ h k=>h.merge k) _ _ (λ_ h=>by cases h) h.sort).nz
theorem ig.form (h:ig p l):ig p (qH l):=(ig.fold (λ_ _ h k=>h.ins k) _ _ (λ_ h=>by cases h) h).nz
theorem Ht {α:Type}[Inhabited α]{R:α->α->Prop}(tr:∀ a b c,R a b->R b c->R a c):∀ {l:List α},(∀ i,i+1<l.length->R (l.getD i default) (l.getD (i+1) default))->l.Pairwise R
 | [],_=>.nil
 | [x],_=>List.pairwise_singleton ..
 | x::y::r,h=>by
  have ih:=Ht tr (l:=y::r) λi hi=>h (i+1) (by simpa using hi)
  have h0:R x y:=h 0 (by simp)
  refine List.pairwise_cons.2 ⟨λz hz=>?_,ih⟩;rcases List.mem_cons.1 hz with rfl|hz
  .exact h0
  .exact tr _ _ _ h0 ((List.pairwise_cons.1 ih).1 z hz)
theorem ai2 (l:List bD):(sortA l).Pairwise λa b=>¬ oV b a<0:=by
 refine Ht (λa b c h k=>?_) λi hi=>?_
 .rw[Fa] at *;omega
 .have hl:(sortA l).length=l.length:=vY ..;have h:=Pn (c:=Po) (λx y h=>decide_eq_false (by have:=kK h;rw[Fa] at *;omega)) (k:=l.length-1) (o:=l) (by omega) i (by omega)
  exact lD h
theorem Ff:∀ (l out:List bD),out.Pairwise (λa b=>oV a b<0)->l.Pairwise (λa b=>¬ oV b a<0)->(∀ a,a ∈ out->∀ b,b ∈ l->¬ oV b a<0)->(l.foldl jK out).Pairwise λa b=>oV a b<0
 | [],out,h,_,_=>h
 | x :: l, out, h, hl, hb => by
  obtain⟨hl1,hl2⟩:=List.pairwise_cons.1 hl;rw[List.foldl_cons];have hx:=λa ha=>hb a ha x vC;rcases List.eq_nil_or_concat out with rfl|⟨o,y,rfl⟩
  .refine Ff l _ ?_ hl2 ?_
   .show List.Pairwise _ (jK [] x)
    unfold jK;rw[if_neg (by simp)]
    exact List.pairwise_singleton ..
   .unfold jK;rw[if_neg (by simp)]
    intro a ha;rw[kJ ha];exact hl1
  .rw[List.concat_eq_append] at *;have hlast:(o++[y]).getD ((o++[y]).length-1) default=y:=by
    rw[iU,jL,Nat.add_sub_cancel,gI,List.getElem?_append_right (Nat.le_refl _),Nat.sub_self];rfl
   obtain⟨p1,_,p3⟩:=List.pairwise_append.1 h;unfold jK;rw[hlast]
   split
   .rename_i hc;rw[show (o++[y]).set ((o++[y]).length-1) { y with q:=y.q+x.q }=o++[{ y with q:=y.q+x.q }] by
     rw[iU,jL,Nat.add_sub_cancel,List.set_append_right _ _ (Nat.le_refl _),Nat.sub_self];rfl]
    have e0:∀ a,oV a { y with q:=y.q+x.q }=oV a y:=λa=>rfl
    have e1:∀ b,oV b { y with q:=y.q+x.q }=oV b y:=λa=>rfl
    refine Ff l _ (List.pairwise_append.2 ⟨p1,List.pairwise_singleton ..,λa ha b hb'=>?_⟩) hl2 λa ha b hb'=>?_
    .rw[kJ hb',e0];exact p3 a ha y (List.mem_singleton.2 rfl)
    .rcases rD ha with ha|ha
     .exact hb a (List.mem_append.2 (.inl ha)) b (List.mem_cons_of_mem _ hb')
     .rw[kJ ha,e1];exact hb y (List.mem_append.2 (.inr (List.mem_singleton.2 rfl))) b (List.mem_cons_of_mem _ hb')
   .rename_i hc;have hyx:oV y x<0:=by
     have h1:oV y x≠0:=λe=>hc ⟨by simp,e⟩
     have h2:=hx y (List.mem_append.2 (.inr (List.mem_singleton.2 rfl)));rw[Fa] at h2 ⊢;rw[Ne,Ph] at h1;omega
    refine Ff l _ (List.pairwise_append.2 ⟨h,List.pairwise_singleton ..,λa ha b hb'=>?_⟩) hl2 λa ha b hb'=>?_
    .rw[kJ hb'];rcases rD ha with ha|ha
     .have:=p3 a ha y (List.mem_singleton.2 rfl);rw[Fa] at *;omega
     .rw[kJ ha];exact hyx
    .rcases rD ha with ha|ha
     .exact hb a ha b (List.mem_cons_of_mem _ hb')
     .rw[kJ ha];exact hl1 b hb'
theorem ai3 (l:List bD):(vH l).Pairwise λa b=>oV a b<0 :=
 List.Pairwise.filter _ (Ff _ _ .nil (ai2 l) λ_ h=>by cases h)
theorem Ud:∀ {l:List bD},l.Pairwise (λa b=>oV a b<0)->x ∈ l->1<=x.l->jd l (x.l-1) x.f x.t=x.q
 | y :: l, hp, hx, h1 => by
  obtain⟨p1,p2⟩:=List.pairwise_cons.1 hp;rw[vZ];rcases List.mem_cons.1 hx with rfl|hx
  .have hz:jd l (x.l-1) x.f x.t=0:=by
    unfold jd;refine (aH7 λz hz=>?_);have:=p1 z hz;rw[Fa] at this;rw[if_neg (by omega)]
   rw[hz,Rat.add_zero];unfold xE;rw[if_pos ⟨rfl,by omega,rfl⟩]
  .have:=p1 x hx;rw[Fa] at this;rw[Ud p2 hx h1];unfold xE;rw[if_neg (by omega),Rat.zero_add]

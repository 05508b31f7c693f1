/-
  M, chapter 23: arcs in order, merged; sums, multiples and reversals of automata.
-/
import Derived.Test.YtnjoncgnjdkaoaaGreatDoorKMod75
set_option linter.unusedVariables false
set_option linter.unusedSimpArgs false
namespace Go.AL
open Go Go.BigFrame
def KJ (B:Nat)(rs:List bW):Prop:=∀ k r,rs[k]? = some r->(∀ i,sz (r.v.getD i 0)+1<=4 ^ k*(B+1))/\∀ i,sz (r.c.getD i 0)+1<=4 ^ k*(B+1)
section
variable {B:Nat}{rs:List bW}{w t:List Rat}
theorem Nb {f:Nat->Rat}{C:Nat}(n:Nat)(hC:1<=C)(h:∀ i,sz (f i)<=C)(i:Nat):sz (((List.range n).map f).getD i 0)<=C:=by
 rcases Nat.lt_or_ge i n with hi|hi
 .rw[aT _ _ hi];exact h i
 .rw[ig,List.getElem?_eq_none (by simp;exact hi),Option.getD_none,gm];exact hC
theorem Wv {r:bW}{C:Nat}(hw:∀ i,sz (w.getD i 0)+1<=C)(hr:∀ i,sz (r.v.getD i 0)+1<=C):sz (jZ w r)+2<=2*C:=by
 have h:=MI (w.getD r.p 0) (r.v.getD r.p 0);have h1:=hw r.p;have h2:=hr r.p;unfold jZ;omega
theorem H7 {r:bW}{C:Nat}(hw:∀ i,sz (w.getD i 0)+1<=C)(hr:∀ i,sz (r.v.getD i 0)+1<=C)(i:Nat):sz ((jl w r).getD i 0)+1<=4*C:=by
 have hC:1<=C:=Nat.le_trans (Nat.le_add_left 1 _) (hw 0);have key:sz ((jl w r).getD i 0)<=4*C-1:=Nb w.length (f:=λi=>w.getD i 0-jZ w r*r.v.getD i 0) (by omega) (λi=>by
  have h1:=QW (w.getD i 0) (jZ w r*r.v.getD i 0);have h2:=mD (jZ w r) (r.v.getD i 0);have h3:=Wv hw hr;have h4:=hw i;have h5:=hr i;omega) i
 omega
theorem aB0 {r:bW}{C:Nat}(hw:∀ i,sz (w.getD i 0)+1<=C)(ht:∀ i,sz (t.getD i 0)+1<=C)(hr:∀ i,sz (r.v.getD i 0)+1<=C)(hc:∀ i,sz (r.c.getD i 0)+1<=C)(i:Nat):sz ((FO t (jZ w r) r.c).getD i 0)+1<=4*C:=by
 have hC:1<=C:=Nat.le_trans (Nat.le_add_left 1 _) (hw 0);have key:sz ((FO t (jZ w r) r.c).getD i 0)<=4*C-1:=Nb t.length (f:=λi=>t.getD i 0+jZ w r*r.c.getD i 0) (by omega) (λi=>by
  have h1:=Bd (t.getD i 0) (jZ w r*r.c.getD i 0);have h2:=mD (jZ w r) (r.c.getD i 0);have h3:=Wv hw hr;have h4:=ht i;have h5:=hc i;omega) i
 omega
theorem X4:∀ (rs:List bW) (j:Nat) (w:List Rat),(∀ k r,rs[k]? = some r->∀ i,sz (r.v.getD i 0)+1<=4 ^ (j+k)*(B+1))->(∀ i,sz (w.getD i 0)+1<=4 ^ j*(B+1))->∀ i,sz ((bg rs w).getD i 0)+1<=4 ^ (j+rs.length)*(B+1)
 | [],_,_,_,hw,i=>hw i
 | r :: rs, j, w, h, hw, i => by
  have h0:=h 0 r rfl;rw[Nat.add_zero] at h0;have:=X4 rs (j+1) (jl w r) (λk q hq=>by
   have:=h (k+1) q hq
   rwa [show j+(k+1)=j+1+k by omega] at this) (λi=>by
   have:=H7 hw h0 i
   rwa [Nat.pow_succ,Nat.mul_comm (4 ^ j),Nat.mul_assoc]) i
  rwa [bg,List.length_cons,show j+(rs.length+1)=j+1+rs.length by omega]
theorem Ug:∀ (rs:List bW) (j:Nat) (w t:List Rat),(∀ k r,rs[k]? = some r->(∀ i,sz (r.v.getD i 0)+1<=4 ^ (j+k)*(B+1))/\∀ i,sz (r.c.getD i 0)+1<=4 ^ (j+k)*(B+1))->(∀ i,sz (w.getD i 0)+1<=4 ^ j*(B+1))->(∀ i,sz (t.getD i 0)+1<=4 ^ j*(B+1)) ->
  ∀ i,sz ((ou rs w t).getD i 0)+1<=4 ^ (j+rs.length)*(B+1)
 | [],_,_,_,_,_,ht,i=>ht i
 | r :: rs, j, w, t, h, hw, ht, i => by
  have h0:=h 0 r rfl;rw[Nat.add_zero] at h0;have:=Ug rs (j+1) (jl w r) (FO t (jZ w r) r.c) (λk q hq=>by
   have:=h (k+1) q hq
   rwa [show j+(k+1)=j+1+k by omega] at this) (λi=>by
   have:=H7 hw h0.1 i
   rwa [Nat.pow_succ,Nat.mul_comm (4 ^ j),Nat.mul_assoc]) (λi=>by
   have:=aB0 hw ht h0.1 h0.2 i
   rwa [Nat.pow_succ,Nat.mul_comm (4 ^ j),Nat.mul_assoc]) i
  rwa [ou,List.length_cons,show j+(rs.length+1)=j+1+rs.length by omega]
theorem KJ.nil:KJ B []:=λk r h=>by cases h
theorem KJ.take (h:KJ B rs)(j:Nat):KJ B (rs.take j):=λk r hk=>by
 rw[List.getElem?_take] at hk
 split at hk
 .exact h k r hk
 .cases hk
theorem KJ.red (h:KJ B rs)(hw:∀ i,sz (w.getD i 0)<=B)(i:Nat):sz ((bg rs w).getD i 0)+1<=4 ^ rs.length*(B+1):=by
 have:=X4 rs 0 w (λk r hk=>by rw[Nat.zero_add];exact (h k r hk).1) (λi=>by rw[Nat.pow_zero,Nat.one_mul];have:=hw i;omega) i
 rwa [Nat.zero_add] at this
theorem Nc (n i:Nat):(List.replicate n (0:Rat)).getD i 0=0:=by
 rw[ig,List.getElem?_replicate]
 split <;> rfl
theorem KJ.ou (h:KJ B rs)(h1:1<=B)(hw:∀ i,sz (w.getD i 0)<=B)(n i:Nat):sz ((Go.AL.ou rs w (List.replicate n 0)).getD i 0)+1<=4 ^ rs.length*(B+1):=by
 have:=Ug rs 0 w (List.replicate n 0) (λk r hk=>by rw[Nat.zero_add];exact h k r hk) (λi=>by rw[Nat.pow_zero,Nat.one_mul];have:=hw i;omega) (λi=>by rw[Nat.pow_zero,Nat.one_mul,Nc,gm];omega) i
 rwa [Nat.zero_add] at this
theorem ai9 (k:Nat):1<=4 ^ k:=Nat.one_le_pow _ _ (by decide)
theorem KJ.JQ (h:KJ B rs)(h1:1<=B)(hw:∀ i,sz (w.getD i 0)<=B)(i:Nat):sz ((Go.AL.JQ rs w).getD i 0)+1<=4 ^ rs.length*(B+1):=by
 have hp:B+1<=4 ^ rs.length*(B+1):=Nat.le_mul_of_pos_left _ (ai9 _);have hl:((bY rs w).map λx=>-x).length=(bY rs w).length:=dJ ..;unfold Go.AL.JQ;rw[ig];rcases Nat.lt_or_ge i (bY rs w).length with hi|hi
 .rw[List.getElem?_append_left (by rw[hl];exact hi),List.getElem?_map,lu hi,Option.map_some,Option.getD_some,IX]
  have:=h.ou h1 hw rs.length i;rw[ig,show Go.AL.ou rs w (List.replicate rs.length 0)=bY rs w from rfl,lu hi,Option.getD_some] at this
  exact this
 .rw[List.getElem?_append_right (by rw[hl];exact hi),hl]
  rcases Nat.eq_zero_or_pos (i-(bY rs w).length) with h0|h0
  .rw[h0];show sz 1+1<=_
   rw[LM];omega
  .rw[List.getElem?_eq_none (by rw[oU];exact h0),Option.getD_none,gm];omega
theorem KJ.grow (h:KJ B rs)(h1:1<=B)(hw:∀ i,sz (w.getD i 0)<=B):KJ B (rs++[newR rs w]):=λk r hk=>by
 rcases Nat.lt_or_ge k rs.length with hi|hi
 .rw[List.getElem?_append_left hi] at hk;exact h k r hk
 .rw[List.getElem?_append_right hi] at hk;rcases Nat.eq_zero_or_pos (k-rs.length) with h0|h0
  .rw[h0] at hk;cases hk
   have e:k=rs.length:=by omega
   subst e;exact⟨λi=>h.red hw i,λi=>h.JQ h1 hw i⟩
  .rw[List.getElem?_eq_none (by rw[oU];exact h0)] at hk;cases hk
theorem KJ.add (h:KJ B rs)(h1:1<=B)(hw:∀ i,sz (w.getD i 0)<=B):KJ B (wB rs w):=by
 unfold wB
 split
 .exact h.grow h1 hw
 .exact h
end
def Ans (m:dP):Option (List Int)->Prop
 | none=>∀ w,kC m.k w->wV m w=0
 | some w=>Dy m w
section
variable {m m2:dP}{V K Q:List (List Int)}{rs:List bW}{w:List Int}{o p:Option (List Int)}
theorem Ans.unique (h:Ans m o)(k:Ans m p):o=p:=by
 cases o with
 | none =>
  cases p with
  | none=>rfl
  | some w=>exact absurd (h w k.zZ) k.nz
 | some v =>
  cases p with
  | none=>exact absurd (k v h.zZ) h.nz
  | some w=>rw[Dy.unique h k]
theorem Ans.congr (hk:m2.k=m.k)(e:∀ w,kC m.k w->(wV m w=0 ↔ wV m2 w=0))(h:Ans m o):Ans m2 o:=by
 cases o with
 | none=>exact λw hw=>(e w (hk ▸ hw)).1 (h w (hk ▸ hw))
 | some v=>exact⟨hk ▸ h.zZ,λz=>h.nz ((e v h.zZ).2 z),λu hu hl=>(e u (hk ▸ hu)).1 (h.before u (hk ▸ hu) hl)⟩
structure Dz (K Q:List (List Int)):Prop where
 kept:∀ (i:Nat) (u:List Int),K[i]? = some u->u.length<=i
 open_:∀ q:List Int,q ∈ Q->q.length<=K.length
theorem Dz.start:Dz [] [[]]:=⟨λi u h=>(by cases h),λq h=>(by rw[lW h];exact Nat.le_refl _)⟩
theorem Dz.drop (h:Dz K (w::Q)):Dz K Q:=⟨h.kept,λq hq=>h.open_ q (List.mem_cons_of_mem _ hq)⟩
theorem Dz.keep {k:Nat}(h:Dz K (w::Q)):Dz (K++[w]) (Q++cu k w):=by
 have hw:=h.open_ w uZ;refine⟨λi u hi=>?_,λq hq=>?_⟩
 .rcases Nat.lt_or_ge i K.length with hl|hl
  .rw[List.getElem?_append_left hl] at hi;exact h.kept i u hi
  .rw[List.getElem?_append_right hl] at hi;rcases Nat.eq_zero_or_pos (i-K.length) with h0|h0
   .rw[h0] at hi;cases hi;omega
   .rw[List.getElem?_eq_none (by rw[oU];exact h0)] at hi;cases hi
 .rw[jG,oU];rcases ul hq with hq|hq
  .have:=h.open_ q (List.mem_cons_of_mem _ hq);omega
  .obtain⟨s,_,rfl⟩:=sH.1 hq;rw[jG,oU];omega
theorem Join.new (ok:m.Ok)(j:Join m V K (w::Q) rs)(hz:FX m K)(hn:wV m w≠0):bM rs (bP m w)=true:=by
 cases hg:bM rs (bP m w) with
 | true=>rfl
 | false =>
  refine absurd ?_ hn;have hs:=((BM j.ech (wo ok w)).1 hg).trans λb hb=>by
   obtain⟨r,hr,rfl⟩:=mM hb;exact j.rows r hr
  refine hs.kill (L:=λu _=>vZ m.n u (vf m.fin)) (Ep m.n (vf m.fin)) λb hb=>?_;obtain⟨u,hu,rfl⟩:=mM hb;exact hz u hu
theorem FX.add (hz:FX m K)(h:wV m w=0):FX m (K++[w]):=λu hu=>(ul hu).elim (hz u) λhu=>by rw[lW hu];exact h
open Classical in
noncomputable def sJ (m:dP):Option (List Int):=if h:∃ o,Ans m o then h.choose else none
theorem Nh (h:Ans m o):sJ m=o:=by
 have h':∃ o,Ans m o:=⟨o,h⟩;unfold sJ;rw[dif_pos h'];exact Ans.unique h'.choose_spec h
end
theorem Uh {p:Nat->Prop}:∀ n,p n->∃ r,p r/\∀ s,p s->r<=s:=by
 intro n
 induction n using Nat.strongRecOn with
 | ind n ih =>
  intro h;by_cases hx:∃ k,k<n/\p k
  .obtain⟨k,hk,hp⟩:=hx;exact ih k hk hp
  .exact⟨n,h,λs hs=>Decidable.byContradiction λhlt=>hx ⟨s,by omega,hs⟩⟩
def FP (k:Nat)(f:List Int->Rat):Wd k->Wd k->Rat:=λu l=>f (u.1++l.1.reverse)
theorem aB1 {α β:Type}{H:α->β->Rat}{n:Nat}(h:MX H n):∃ r,xZ H r :=
 have ⟨r,h1,h2⟩:=Uh (p:=MX H) n h
 ⟨r,h1,h2⟩
open Classical in
noncomputable def H8 (k:Nat)(f:List Int->Rat):Nat:=if h:∃ r,xZ (FP k f) r then h.choose else 0
section
variable {m:dP}{k r:Nat}{f g:List Int->Rat}
theorem Nj (h:xZ (FP k f) r):H8 k f=r:=by
 have h':∃ r,xZ (FP k f) r:=⟨r,h⟩;unfold H8;rw[dif_pos h'];exact xZ.unique h'.choose_spec h
theorem Wx {n:Nat}(h:MX (FP k f) n):xZ (FP k f) (H8 k f):=by
 obtain⟨r,hr⟩:=aB1 h;rw[Nj hr];exact hr
theorem aB2 {u l:List Int}(hu:kC k u)(hl:kC k l):kC k (u++l.reverse):=λx hx=>(ul hx).elim (hu x) λh=>hl x (List.mem_reverse.1 h)
theorem Zn (h:∀ w,kC k w->f w=g w):FP k f=FP k g:=by
 funext u l;exact h _ (aB2 u.2 l.2)
theorem aj0 (m:dP):MX (FP m.k (wV m)) m.n :=
 ⟨λu i=>vf (bP m u.1) i,λi l=>vf (bP (dA m) l.1) i,λu l=>(Ff l.1 u.1 l.2).symm⟩
theorem Px (m:dP):xZ (FP m.k (wV m)) (H8 m.k (wV m)):=Wx (aj0 m)
theorem Zo {s:Nat}(h:xZ (FP k f) r)(h2:xZ (FP k λw=>f w.reverse) s):s=r:=by
 have e:FP k (λw=>f w.reverse)=λb a=>FP k f a b:=by
  funext u l;unfold FP;show f (u.1++l.1.reverse).reverse=f (l.1++u.1.reverse)
  rw[List.reverse_append,List.reverse_reverse]
 rw[e] at h2;exact h2.unique h.turn
end
end Go.AL
namespace Go.AL
open Go Go.BigFrame
def cI (a b:Nat):Int:=if a<b then -1 else if b<a then 1 else 0
def pF (x y:bH):Int:=if cI x.f y.f≠0 then cI x.f y.f else if cI x.l y.l≠0 then cI x.l y.l else cI x.t y.t
section
variable {x y z:bH}
theorem yK {a b:Nat}:cI a b=0 ↔ a=b:=by
 unfold cI
 split
 .exact⟨λh=>(by cases h),λh=>(by omega)⟩
 .split
  .exact⟨λh=>(by cases h),λh=>(by omega)⟩
  .exact⟨λ_=>(by omega),λ_=>rfl⟩
theorem aj1 {a b:Nat}:cI a b<0 ↔ a<b:=by
 unfold cI
 split
 .exact⟨λ_=>by assumption,λ_=>by decide⟩
 .split
  .exact⟨λh=>absurd h (by decide),λh=>by omega⟩
  .exact⟨λh=>absurd h (by decide),λh=>by omega⟩
theorem Py:pF x y=0 ↔ x.f=y.f/\x.l=y.l/\x.t=y.t:=by
 unfold pF;by_cases h1:cI x.f y.f=0
 .rw[if_neg (by simp[h1])]
  by_cases h2:cI x.l y.l=0
  .rw[if_neg (by simp[h2]),yK]
   exact⟨λh=>⟨yK.1 h1,yK.1 h2,h⟩,λh=>h.2.2⟩
  .rw[if_pos h2];exact⟨λh=>absurd h h2,λh=>absurd (yK.2 h.2.1) h2⟩
 .rw[if_pos h1];exact⟨λh=>absurd h h1,λh=>absurd (yK.2 h.1) h1⟩
theorem DC:pF x y<0 ↔ x.f<y.f \/ (x.f=y.f/\(x.l<y.l \/ (x.l=y.l/\x.t<y.t))):=by
 unfold pF;by_cases h1:cI x.f y.f=0
 .rw[if_neg (by simp[h1])]
  have e1:=yK.1 h1;by_cases h2:cI x.l y.l=0
  .rw[if_neg (by simp[h2]),aj1]
   have e2:=yK.1 h2;omega
  .rw[if_pos h2,aj1];have e2:x.l≠y.l:=λe=>h2 (yK.2 e);omega
 .rw[if_pos h1,aj1];have e1:x.f≠y.f:=λe=>h1 (yK.2 e);omega
end
section
variable {α:Type}[Inhabited α]
def DT (o:List α)(j:Nat):List α:=(o.set (j+1) (o.getD j default)).set j (o.getD (j+1) default)
def Et (c:α->α->Bool):Nat->List α->List α
 | 0,o=>o
 | j+1,o=>if c (o.getD (j+1) default) (o.getD j default) then Et c j (DT o j) else o
def sV (c:α->α->Bool):Nat->List α->List α
 | 0,o=>o
 | k+1,o=>Et c (k+1) (sV c k o)
theorem Fg (o:List α)(j:Nat):(DT o j).length=o.length:=by simp[DT]
theorem Pz (c:α->α->Bool):∀ (j:Nat) (o:List α),(Et c j o).length=o.length
 | 0,o=>rfl
 | j+1,o=>by
  rw[Et]
  split
  .rw[Pz c j,Fg]
  .rfl
theorem wW (c:α->α->Bool):∀ (k:Nat) (o:List α),(sV c k o).length=o.length
 | 0,o=>rfl
 | k+1,o=>by rw[sV,Pz,wW c k]
theorem I9 {o:List α}{i j:Nat}{x:α}(h:i<o.length):(o.set i x).getD j default=if i=j then x else o.getD j default:=by
 rw[ig,List.getElem?_set];by_cases e:i=j
 .subst e;rw[if_pos rfl,if_pos h,if_pos rfl];rfl
 .rw[if_neg e,if_neg e,ig]
theorem Zp {o:List α}{j:Nat}(h:j+1<o.length)(i:Nat):(DT o j).getD i default=if i=j then o.getD (j+1) default else if i=j+1 then o.getD j default else o.getD i default:=by
 unfold DT;rw[I9 (by rw[List.length_set];omega),I9 h]
 by_cases e1:i=j
 .rw[if_pos e1.symm,if_pos e1]
 .rw[if_neg (λe=>e1 e.symm),if_neg e1];by_cases e2:i=j+1
  .rw[if_pos e2.symm,if_pos e2]
  .rw[if_neg (λe=>e2 e.symm),if_neg e2]
theorem Nk:∀ {o:List α} {j:Nat},j+1<o.length->(DT o j).Perm o
 | [],j,h=>by simp at h
 | [a],j,h=>by simp at h
 | a::b::r,0,h=>by
  show (b::a::r).Perm _
  exact List.Perm.swap ..
 | a::b::r,j+1,h=>by
  have e:DT (a::b::r) (j+1)=a::DT (b::r) j:=by simp[DT]
  rw[e];exact List.Perm.cons a (Nk (by simpa using h))
theorem Nl (c:α->α->Bool):∀ {j:Nat} {o:List α},j<o.length->(Et c j o).Perm o
 | 0,o,_=>.refl _
 | j+1,o,h=>by
  rw[Et]
  split
  .exact (Nl c (by rw[Fg];omega)).trans (Nk h)
  .exact .refl _
theorem Np (c:α->α->Bool):∀ {k:Nat} {o:List α},k<o.length->(sV c k o).Perm o
 | 0,o,_=>.refl _
 | k+1,o,h=>by
  rw[sV];exact (Nl c (by rw[wW];exact h)).trans (Np c (by omega))
def ba8 (c:α->α->Bool)(o:List α)(k:Nat):Prop:=∀ i,i<k->c (o.getD (i+1) default) (o.getD i default)=false
theorem PE {c:α->α->Bool}(ha:∀ x y,c x y=true->c y x=false){k:Nat}:∀ {j:Nat} {o:List α},j<=k->k<o.length->(∀ i,i<k->i+1≠j->c (o.getD (i+1) default) (o.getD i default)=false)->(∀ i,i+1=j->j+1<=k->c (o.getD (j+1) default) (o.getD i default)=false)->ba8 c (Et c j o) k
 | 0,o,_,_,h1,_=>λi hi=>h1 i hi (by omega)
 | j + 1, o, hj, hk, h1, h2 => by
  rw[Et]
  split
  .rename_i hc;have hg:=Zp (o:=o) (j:=j) (by omega)
   refine PE ha (by omega) (by rw[Fg];exact hk) (λi hi hne=>?_) (λi hi hk2=>?_)
   .rw[hg,hg];by_cases e1:i=j
    .subst e1;rw[if_neg (by omega),if_pos rfl,if_pos rfl]
     exact ha _ _ hc
    .by_cases e2:i=j+1
     .subst e2;rw[if_neg (by omega),if_neg (by omega),if_neg (by omega),if_pos rfl]
      exact h2 j rfl hi
     .rw[if_neg (by omega),if_neg (by omega),if_neg e1,if_neg e2]
      exact h1 i hi (by omega)
   .rw[hg,hg,if_neg (by omega),if_pos rfl,if_neg (by omega),if_neg (by omega),<- hi]
    exact h1 i (by omega) (by omega)
  .rename_i hc;intro i hi;by_cases e:i=j
   .subst e;exact Bool.not_eq_true _ ▸ hc
   .exact h1 i hi (by omega)
theorem PI {c:α->α->Bool}(ha:∀ x y,c x y=true->c y x=false):∀ {k:Nat} {o:List α},k<o.length->ba8 c (sV c k o) k
 | 0,o,_=>λi hi=>by omega
 | k+1,o,h=>by
  rw[sV];have h1:=PI ha (k:=k) (o:=o) (by omega)
  exact PE ha (Nat.le_refl _) (by rw[wW];exact h) (λi hi hne=>h1 i (by omega)) (λi hi hk=>by omega)
end
def PK (x y:bH):Bool:=decide (pF x y<0)
def sortA (l:List bH):List bH:=sV PK (l.length-1) l
def kz (out:List bH)(x:bH):List bH :=
 if 0<out.length/\pF (out.getD (out.length-1) default) x=0 then out.set (out.length-1) { out.getD (out.length-1) default with q:=(out.getD (out.length-1) default).q+x.q } else out++[x]
def Sj (l:List bH):List bH:=l.filter λx=>decide (x.q≠0)
def dZ (l:List bH):List bH:=Sj ((sortA l).foldl kz [])
def uF (out:List bH)(x:bH):Nat:=out.findIdx λy=>decide (¬ pF y x<0)
def Ac (out:List bH)(x:bH):List bH :=
 if uF out x<out.length/\pF (out.getD (uF out x) default) x=0 then out.set (uF out x) { out.getD (uF out x) default with q:=(out.getD (uF out x) default).q+x.q } else out.take (uF out x)++x::out.drop (uF out x)
def uh (l:List bH):List bH:=Sj (l.foldl Ac [])
section
variable {l out:List bH}{x y:bH}{s i j:Nat}
def wu (s i j:Nat)(x:bH):Rat:=if x.f=i/\x.l=s+1/\x.t=j then x.q else 0
theorem zK (l m:List bH):iU (l++m) s i j=iU l s i j+iU m s i j:=JO ..
theorem sK (x:bH)(l:List bH):iU (x::l) s i j=wu s i j x+iU l s i j:=rfl
theorem x8:iU [] s i j=0:=rfl
theorem Wy {α:Type}{f:α->Rat}{l m:List α}(h:l.Perm m):jR f l=jR f m:=by
 induction h with
 | nil=>rfl
 | cons x _ ih=>rw[jR,jR,ih]
 | swap x y l=>rw[jR,jR,jR,jR,<- Rat.add_assoc,<- Rat.add_assoc,Rat.add_comm (f y)]
 | trans _ _ h1 h2=>exact h1.trans h2
theorem Gq (l:List bH):(sortA l).Perm l:=by
 cases l with
 | nil=>exact .refl _
 | cons x r=>exact Np PK (by simp)
theorem X5 {α:Type}{f:α->Rat}:∀ {l:List α},(∀ x,x ∈ l->f x=0)->jR f l=0
 | [],_=>rfl
 | x::l,h=>by rw[jR,h x uZ,X5 λy hy=>h y (List.mem_cons_of_mem _ hy),Rat.add_zero]
theorem Zq:iU (sortA l) s i j=iU l s i j:=Wy (Gq l)
theorem JR {α:Type}{f:α->Rat}{p:α->Bool}:∀ {l:List α},(∀ x,x ∈ l->p x=false->f x=0)->jR f (l.filter p)=jR f l
 | [],_=>rfl
 | x::l,h=>by
  have ih:=JR (f:=f) (p:=p) (l:=l) λy hy=>h y (List.mem_cons_of_mem _ hy);rw[List.filter_cons];cases hp:p x with
  | true=>rw[if_pos rfl,jR,jR,ih]
  | false=>rw[if_neg (by decide),ih,jR,h x uZ hp,Rat.zero_add]
theorem X6:iU (Sj l) s i j=iU l s i j:=JR λx _ hp=>by
 have h0:x.q=0:=Decidable.byContradiction λh=>by rw[decide_eq_true h] at hp;cases hp
 split
 .exact h0
 .rfl
theorem Ui {k:Nat}(hk:k<out.length)(he:pF (out.getD k default) x=0):iU (out.set k { out.getD k default with q:=(out.getD k default).q+x.q }) s i j=iU out s i j+wu s i j x:=by
 have e:out=out.take k++out.getD k default::out.drop (k+1):=by
  rw[ig,lu hk,Option.getD_some,<- List.drop_eq_getElem_cons hk,List.take_append_drop]
 obtain⟨h1,h2,h3⟩:=Py.1 he;generalize out.getD k default=y at *;rw[List.set_eq_take_append_cons_drop,if_pos hk]
 conv=>rhs;rw[e]
 rw[zK,zK,sK,sK];have hp:wu s i j { y with q:=y.q+x.q }=wu s i j y+wu s i j x:=by
  unfold wu;show (if y.f=i/\y.l=s+1/\y.t=j then y.q+x.q else 0)=_
  rw[<- h1,<- h2,<- h3]
  split
  .rfl
  .rw[Rat.add_zero]
 rw[hp,Rat.add_assoc,Rat.add_assoc,Rat.add_assoc,Rat.add_comm (wu s i j x)]
theorem WA:iU (kz out x) s i j=iU out s i j+wu s i j x:=by
 unfold kz
 split
 .rename_i h;exact Ui (by omega) h.2
 .rw[zK,sK,x8,Rat.add_zero]
theorem aj2:iU (Ac out x) s i j=iU out s i j+wu s i j x:=by
 unfold Ac
 split
 .rename_i h;exact Ui h.1 h.2
 .conv=>rhs;rw[<- List.take_append_drop (uF out x) out]
  rw[zK,zK,sK,Rat.add_assoc,Rat.add_comm (wu s i j x)]
theorem Ja {g:List bH->bH->List bH}(hg:∀ out x,iU (g out x) s i j=iU out s i j+wu s i j x):∀ (l out:List bH),iU (l.foldl g out) s i j=iU out s i j+iU l s i j
 | [],out=>by rw[List.foldl_nil,x8,Rat.add_zero]
 | x::l,out=>by rw[List.foldl_cons,Ja hg l,hg,sK,Rat.add_assoc]
theorem Fh:iU (dZ l) s i j=iU l s i j:=by
 unfold dZ;rw[X6,Ja (λout x=>WA),x8,Rat.zero_add,Zq]
theorem PL:iU (uh l) s i j=iU l s i j:=by
 unfold uh;rw[X6,Ja (λout x=>aj2),x8,Rat.zero_add]
def gZ (p:Nat->Nat->Nat->Prop)(l:List bH):Prop:=∀ x,x ∈ l->p x.f x.l x.t
variable {p:Nat->Nat->Nat->Prop}
theorem gZ.set {k:Nat}{q:Rat}(h:gZ p out)(hk:k<out.length):gZ p (out.set k { out.getD k default with q:=q }):=λy hy=>by
 rcases List.mem_or_eq_of_mem_set hy with hy|rfl
 .exact h y hy
 .exact h (out.getD k default) (getD_mem hk default)
theorem gZ.merge (h:gZ p out)(hx:p x.f x.l x.t):gZ p (kz out x):=by
 unfold kz
 split
 .exact h.set (by omega)
 .intro y hy;rcases ul hy with hy|hy
  .exact h y hy
  .rw[lW hy];exact hx
theorem gZ.ins (h:gZ p out)(hx:p x.f x.l x.t):gZ p (Ac out x):=by
 unfold Ac
 split
 .rename_i hc;exact h.set hc.1
 .intro y hy;rcases ul hy with hy|hy
  .exact h y (List.mem_of_mem_take hy)
  .rcases List.mem_cons.1 hy with rfl|hy
   .exact hx
   .exact h y (List.mem_of_mem_drop hy)
theorem gZ.fold {g:List bH->bH->List bH}(hg:∀ out x,gZ p out->p x.f x.l x.t->gZ p (g out x)):∀ (l out:List bH),gZ p out->gZ p l->gZ p (l.foldl g out)
 | [],out,h,_=>h
 | x::l,out,h,k=>gZ.fold hg l _ (hg _ _ h (k x uZ)) λy hy=>k y (List.mem_cons_of_mem _ hy)
theorem gZ.nz (h:gZ p l):gZ p (Sj l):=λy hy=>h y (List.mem_filter.1 hy).1
theorem gZ.sort (h:gZ p l):gZ p (sortA l):=λy hy=>h y ((Gq l).mem_iff.1 hy)
theorem gZ.tidy (h:gZ p l):gZ p (dZ l):=(gZ.fold (λ_ _ h k=>h.merge k) _ _ (λ_ h=>by cases h) h.sort).nz
theorem gZ.form (h:gZ p l):gZ p (uh l):=(gZ.fold (λ_ _ h k=>h.ins k) _ _ (λ_ h=>by cases h) h).nz
theorem H9 {α:Type}[Inhabited α]{R:α->α->Prop}(tr:∀ a b c,R a b->R b c->R a c):∀ {l:List α},(∀ i,i+1<l.length->R (l.getD i default) (l.getD (i+1) default))->l.Pairwise R
 | [],_=>.nil
 | [x],_=>List.pairwise_singleton ..
 | x::y::r,h=>by
  have ih:=H9 tr (l:=y::r) λi hi=>h (i+1) (by simpa using hi)
  have h0:R x y:=h 0 (by simp)
  refine List.pairwise_cons.2 ⟨λz hz=>?_,ih⟩;rcases List.mem_cons.1 hz with rfl|hz
  .exact h0
  .exact tr _ _ _ h0 ((List.pairwise_cons.1 ih).1 z hz)
theorem aj3 (l:List bH):(sortA l).Pairwise λa b=>¬ pF b a<0:=by
 refine H9 (λa b c h k=>?_) λi hi=>?_
 .rw[DC] at *;omega
 .have hl:(sortA l).length=l.length:=wW ..;have h:=PI (c:=PK) (λx y h=>decide_eq_false (by have:=lq h;rw[DC] at *;omega)) (k:=l.length-1) (o:=l) (by omega) i (by omega)
  exact nS h
theorem Fj:∀ (l out:List bH),out.Pairwise (λa b=>pF a b<0)->l.Pairwise (λa b=>¬ pF b a<0)->(∀ a,a ∈ out->∀ b,b ∈ l->¬ pF b a<0)->(l.foldl kz out).Pairwise λa b=>pF a b<0
 | [],out,h,_,_=>h
 | x :: l, out, h, hl, hb => by
  obtain⟨hl1,hl2⟩:=List.pairwise_cons.1 hl;rw[List.foldl_cons];have hx:=λa ha=>hb a ha x uZ;rcases List.eq_nil_or_concat out with rfl|⟨o,y,rfl⟩
  .refine Fj l _ ?_ hl2 ?_
   .show List.Pairwise _ (kz [] x)
    unfold kz;rw[if_neg (by simp)]
    exact List.pairwise_singleton ..
   .unfold kz;rw[if_neg (by simp)]
    intro a ha;rw[lW ha];exact hl1
  .rw[List.concat_eq_append] at *;have hlast:(o++[y]).getD ((o++[y]).length-1) default=y:=by
    rw[jG,oU,Nat.add_sub_cancel,ig,List.getElem?_append_right (Nat.le_refl _),Nat.sub_self];rfl
   obtain⟨p1,_,p3⟩:=List.pairwise_append.1 h;unfold kz;rw[hlast]
   split
   .rename_i hc;rw[show (o++[y]).set ((o++[y]).length-1) { y with q:=y.q+x.q }=o++[{ y with q:=y.q+x.q }] by
     rw[jG,oU,Nat.add_sub_cancel,List.set_append_right _ _ (Nat.le_refl _),Nat.sub_self];rfl]
    have e0:∀ a,pF a { y with q:=y.q+x.q }=pF a y:=λa=>rfl
    have e1:∀ b,pF b { y with q:=y.q+x.q }=pF b y:=λa=>rfl
    refine Fj l _ (List.pairwise_append.2 ⟨p1,List.pairwise_singleton ..,λa ha b hb'=>?_⟩) hl2 λa ha b hb'=>?_
    .rw[lW hb',e0];exact p3 a ha y (List.mem_singleton.2 rfl)
    .rcases ul ha with ha|ha
     .exact hb a (List.mem_append.2 (.inl ha)) b (List.mem_cons_of_mem _ hb')
     .rw[lW ha,e1];exact hb y (List.mem_append.2 (.inr (List.mem_singleton.2 rfl))) b (List.mem_cons_of_mem _ hb')
   .rename_i hc;have hyx:pF y x<0:=by
     have h1:pF y x≠0:=λe=>hc ⟨by simp,e⟩
     have h2:=hx y (List.mem_append.2 (.inr (List.mem_singleton.2 rfl)));rw[DC] at h2 ⊢;rw[Ne,Py] at h1;omega
    refine Fj l _ (List.pairwise_append.2 ⟨h,List.pairwise_singleton ..,λa ha b hb'=>?_⟩) hl2 λa ha b hb'=>?_
    .rw[lW hb'];rcases ul ha with ha|ha
     .have:=p3 a ha y (List.mem_singleton.2 rfl);rw[DC] at *;omega
     .rw[lW ha];exact hyx
    .rcases ul ha with ha|ha
     .exact hb a ha b (List.mem_cons_of_mem _ hb')
     .rw[lW ha];exact hl1 b hb'
theorem Uj (l:List bH):(dZ l).Pairwise λa b=>pF a b<0 :=
 List.Pairwise.filter _ (Fj _ _ .nil (aj3 l) λ_ h=>by cases h)
theorem Uk:∀ {l:List bH},l.Pairwise (λa b=>pF a b<0)->x ∈ l->1<=x.l->iU l (x.l-1) x.f x.t=x.q
 | y :: l, hp, hx, h1 => by
  obtain⟨p1,p2⟩:=List.pairwise_cons.1 hp;rw[sK];rcases List.mem_cons.1 hx with rfl|hx
  .have hz:iU l (x.l-1) x.f x.t=0:=by
    unfold iU;refine (X5 λz hz=>?_);have:=p1 z hz;rw[DC] at this;rw[if_neg (by omega)]
   rw[hz,Rat.add_zero];unfold wu;rw[if_pos ⟨rfl,by omega,rfl⟩]
  .have:=p1 x hx;rw[DC] at this;rw[Uk p2 hx h1];unfold wu;rw[if_neg (by omega),Rat.zero_add]

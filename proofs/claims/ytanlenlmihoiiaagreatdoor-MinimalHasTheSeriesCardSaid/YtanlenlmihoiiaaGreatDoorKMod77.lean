/-
  M, chapter 23: what the search answers, and the rank of a series.
-/
import Derived.Test.YtanlenlmihoiiaaGreatDoorKMod73
set_option linter.unusedVariables false
set_option linter.unusedSimpArgs false
namespace Go.AL
open Go Go.BigFrame
section
variable {n:Nat}
theorem VB {α:Type}(p:α->Prop):∀ l:List α,(∀ x,x ∈ l->p x) \/ ∃ a x z,l=a++x::z/\¬ p x/\∀ y,y ∈ z->p y
 | []=>.inl λ_ h=>by cases h
 | x :: r => by
  rcases VB p r with h|⟨a,y,z,e,h1,h2⟩
  .by_cases hx:p x
   .exact .inl λy hy=>(List.mem_cons.1 hy).elim (λe=>e ▸ hx) (h y)
   .exact .inr ⟨[],x,r,rfl,hx,h⟩
  .exact .inr ⟨x::a,y,z,by rw[e];rfl,h1,h2⟩
def aO6 (n:Nat)(f:dh->Rat)(r x:dh):dh:=⟨(List.range n).map λi=>x.v.getD i 0-f x*r.v.getD i 0,x.c,x.p⟩
theorem OC {f:dh->Rat}{r x:dh}{i:Nat}(hi:i<n):(aO6 n f r x).v.getD i 0=x.v.getD i 0-f x*r.v.getD i 0:=aO _ _ hi
theorem FB:∀ (C:List (List Rat)) (rs:List dh),MI n rs->(∀ r,r ∈ rs->cZ n C (vf r.v))->rs.length<=C.length
 | [], rs, e, h => by
  cases rs with
  | nil=>exact Nat.le_refl _
  | cons r rs =>
   obtain⟨p1,p2⟩:=e.piv r rY;cases h r rY with
   | zero h=>exact absurd (h _ p1) p2
   | add _ hb=>cases hb
 | c :: C, rs, e, h => by
  rcases VB (λr:dh=>cZ n C (vf r.v)) rs with hall|⟨A,r,Z,rfl,hr,hZ⟩
  .exact Nat.le_succ_of_le (FB C rs e hall)
  .obtain⟨a,w,hw,ha⟩:=(h r (by simp)).split
   have ha0:a≠0:=λe0=>hr (hw.congr λi hi=>by rw[ha i hi,e0,Rat.zero_mul,Rat.zero_add])
   have hx:∀ x:dh,∃ f:Rat,x ∈ A->cZ n C λi=>x.v.getD i 0-f*r.v.getD i 0:=λx=>by
    by_cases hxA:x ∈ A
    .obtain⟨b,u,hu,hb⟩:=(h x (by simp[hxA])).split
     refine⟨b / a,λ_=>(hu.plus (hw.smul (-(b / a)))).congr λi hi=>?_⟩;show x.v.getD i 0-b / a*r.v.getD i 0=u i + -(b / a)*w i
     rw[show x.v.getD i 0=b*c.getD i 0+u i from hb i hi,show r.v.getD i 0=a*c.getD i 0+w i from ha i hi,Rat.mul_add,<- Rat.mul_assoc,Rat.div_mul_cancel ha0,Rat.sub_eq_add_neg,Rat.neg_add,Rat.neg_mul,Rat.add_comm (b*_),Rat.add_assoc,<- Rat.add_assoc (b*_),Rat.add_neg_cancel,Rat.zero_add]
    .exact⟨0,λk=>absurd k hxA⟩
   obtain⟨f,hf⟩:=Classical.axiomOfChoice hx;have hz:=List.pairwise_append.1 e.zero;have hz2:=List.pairwise_cons.1 hz.2.1;have hlen:=FB C (A.map (aO6 n f r)++Z) ⟨λy hy=>?_,?_⟩ λy hy=>?_
   .rw[jd,dL] at hlen;rw[jd,List.length_cons,List.length_cons];omega
   .rcases ru hy with hy|hy
    .obtain⟨x,hxA,rfl⟩:=jH hy;obtain⟨p1,p2⟩:=e.piv x (by simp[hxA])
     refine⟨p1,?_⟩;rw[show (aO6 n f r x).p=x.p from rfl,OC p1,hz.2.2 x hxA r rY,Rat.mul_zero,Rat.sub_eq_add_neg,Rat.neg_zero,Rat.add_zero]
     exact p2
    .exact e.piv y (by simp[hy])
   .refine List.pairwise_append.2 ⟨List.pairwise_map.2 (hz.1.imp_of_mem λ{x y} hxA hyA k=>?_),hz2.2,λx hxm y hy=>?_⟩
    .have p1:=(e.piv x (by simp[hxA])).1
     rw[show (aO6 n f r x).p=x.p from rfl,OC p1,k,hz.2.2 x hxA r rY,Rat.mul_zero,Rat.sub_self]
    .obtain⟨x,hxA,rfl⟩:=jH hxm;exact hz.2.2 x hxA y (List.mem_cons_of_mem _ hy)
   .rcases ru hy with hy|hy
    .obtain⟨x,hxA,rfl⟩:=jH hy;exact (hf x hxA).congr λi hi=>OC hi
    .exact hZ y hy
end
def OD {α β:Type}(H:α->β->Rat)(r:Nat):Prop:=∃ (A:α->Nat->Rat) (B:Nat->β->Rat),∀ a b,H a b=aW (λk=>A a k*B k b) r
section
variable {α β:Type}{H G:α->β->Rat}{r s:Nat}
theorem OD.turn (h:OD H r):OD (λb a=>H a b) r :=
 have ⟨A,B,e⟩:=h
 ⟨λb k=>B k b,λk a=>A a k,λb a=>by show H a b=_;rw[e];exact aF λk _=>Rat.mul_comm ..⟩
theorem OD.plus (h:OD H r)(k:OD G s):OD (λa b=>H a b+G a b) (r+s):=by
 obtain⟨A,B,e⟩:=h;obtain⟨A2,B2,e2⟩:=k;refine⟨λa k=>if k<r then A a k else A2 a (k-r),λk b=>if k<r then B k b else B2 (k-r) b,λa b=>?_⟩
 show H a b+G a b=_
 rw[CQ,e,e2];congr 1
 .exact aF λk hk=>by simp only[if_pos hk]
 .exact aF λk _=>by simp only[if_neg (show ¬ r+k<r by omega),Nat.add_sub_cancel_left]
theorem OD.smul (h:OD H r)(c:Rat):OD (λa b=>c*H a b) r :=
 have ⟨A,B,e⟩:=h
 ⟨λa k=>c*A a k,B,λa b=>by show c*H a b=_;rw[e,<- ig];exact aF λk _=>(Rat.mul_assoc ..).symm⟩
theorem OD.map {α2 β2:Type}(h:OD H r)(f:α2->α)(g:β2->β):OD (λa b=>H (f a) (g b)) r :=
 have ⟨A,B,e⟩:=h
 ⟨λa k=>A (f a) k,λk b=>B k (g b),λa b=>e _ _⟩
theorem OD.zero:OD H 0 ↔ ∀ a b,H a b=0 :=
 ⟨λ⟨_,_,e⟩ a b=>by rw[e];rfl,λh=>⟨λ_ _=>0,λ_ _=>0,λa b=>by rw[h];rfl⟩⟩
structure yA (H:α->β->Rat) (r:Nat):Prop where
 fac:OD H r
 least:∀ s,OD H s->r<=s
theorem yA.unique (h:yA H r)(k:yA H s):r=s:=Nat.le_antisymm (h.least _ k.fac) (k.least _ h.fac)
theorem yA.turn (h:yA H r):yA (λb a=>H a b) r:=⟨h.fac.turn,λs k=>h.least s k.turn⟩
theorem TR {n:Nat}{rs:List dh}(e:MI n rs)(fac:OD H rs.length)(V:List α)(cols:Nat->β)(hv:∀ r,r ∈ rs->cZ n (V.map λa=>(List.range n).map λj=>H a (cols j)) (vf r.v)):yA H rs.length :=
 ⟨fac,λs ⟨A,B,hs⟩=>by
  have h:=FB (n:=n) ((List.range s).map λk=>(List.range n).map λj=>B k (cols j)) rs e λr hr=>(hv r hr).trans λb hb=>by
   obtain⟨a,_,rfl⟩:=jH hb;have key:∀ t,t<=s->cZ n ((List.range s).map λk=>(List.range n).map λj=>B k (cols j)) λj=>aW (λk=>A a k*B k (cols j)) t:=by
    intro t
    induction t with
    | zero=>intro _;exact .zero λ_ _=>rfl
    | succ t ih =>
     intro ht;refine .add (A a t) (List.mem_map.2 ⟨t,List.mem_range.2 (by omega),rfl⟩) (ih (by omega)) λj hj=>?_
     rw[aW,aO _ _ hj]
   exact (key s (Nat.le_refl s)).congr λj hj=>by
    show ((List.range n).map λj=>H a (cols j)).getD j 0=_
    rw[aO _ _ hj,hs]
  rw[dL,List.length_range] at h;exact h⟩
end
abbrev Wd (k:Nat):={ w:List Int // iy k w }
def aU (m:bQ):bQ:=⟨m.n,m.fin,m.ini,m.gV.map λM=>EH m.n λi j=>(M.getD j []).getD i 0⟩
def jW (m:bQ)(u l:List Int):Rat:=mZ m.n (vf (aZ m u)) (vf (aZ (aU m) l))
section
variable {m:bQ}{u l:List Int}{n:Nat}{B:List (List Rat)}
theorem lg:(aU m).k=m.k:=by simp[bQ.k,aU]
theorem qC (h:m.Ok):(aU m).Ok:=⟨h.fin,h.ini⟩
theorem VE {s i j:Nat}(hs:s<m.k)(hi:i<m.n)(hj:j<m.n):iU (aU m) s i j=iU m s j i:=by
 unfold iU aU;have e:(m.gV.map λM=>EH m.n λi j=>(M.getD j []).getD i 0).getD s []=EH m.n λi j=>((m.gV.getD s []).getD j []).getD i 0:=by
  rw[iO,List.getElem?_map,lF hs,iO,lF hs];rfl
 rw[e,Nj hi hj]
theorem VF {v x:List Rat}{s:Nat}(hs:s<m.k):mZ m.n (vf (stepM m v s)) (vf x)=mZ m.n (vf v) (vf (stepM (aU m) x s)):=by
 unfold mZ;rw[show aW (λi=>vf (stepM m v s) i*vf x i) m.n=aW (λj=>aW (λi=>v.getD i 0*iU m s i j*x.getD j 0) m.n) m.n from aF λj hj=>by
  show (stepM m v s).getD j 0*_=_
  rw[pK hj,<- nG]]
 rw[pJ];refine aF λi hi=>?_;show _=v.getD i 0*(stepM (aU m) x s).getD i 0
 rw[pK (m:=aU m) hi,<- ig];refine aF λj hj=>?_;rw[VE hs hj hi,Rat.mul_assoc,Rat.mul_comm (iU m s i j)]
theorem Bv:∀ (l u:List Int),iy m.k l->jW m u l=kU m (u++l.reverse):=by
 intro l
 induction hn:l.length generalizing l with
 | zero =>
  intro u _;rw[EQ hn,List.reverse_nil,List.append_nil];rfl
 | succ n ih =>
  intro u hl;have hne:l≠[]:=λe=>by subst e;cases hn
  obtain⟨y,x,rfl⟩:∃ y x,l=y++[x]:=⟨l.dropLast,l.getLast hne,(List.dropLast_concat_getLast hne).symm⟩;have hx:=hl x (by simp)
  rw[List.reverse_append,List.reverse_singleton,List.singleton_append,show u++x::y.reverse=(u++[x])++y.reverse by simp,<- ih y (by rw[jd,kC] at hn;omega) (u++[x]) λz hz=>hl z (List.mem_append.2 (.inl hz))]
  unfold jW;rw[iq,iq,<- VF (by omega)]
theorem cZ.bc6 {v:Nat->Rat}(h:cZ n B v):∃ c:Nat->Rat,∀ i,i<n->v i=aW (λk=>c k*(B.getD k []).getD i 0) B.length:=by
 induction h with
 | zero h=>exact⟨λ_=>0,λi hi=>by rw[h i hi];exact (jk λk _=>Rat.zero_mul _).symm⟩
 | @add u u' b a hb _ h ih =>
  obtain⟨c,hc⟩:=ih;obtain⟨p,hp,e⟩:=List.mem_iff_getElem.1 hb;refine⟨λk=>c k+if p=k then a else 0,λi hi=>?_⟩
  rw[h i hi,hc i hi,show aW (λk=>(c k+if p=k then a else 0)*(B.getD k []).getD i 0) B.length=aW (λk=>c k*(B.getD k []).getD i 0) B.length+aW (λk=>if p=k then a*(B.getD k []).getD i 0 else 0) B.length by
   rw[<- pF];refine aF λk _=>?_;rw[Rat.add_mul];congr 1
   split
   .rfl
   .rw[Rat.zero_mul]]
  rw[xh (v:=λk=>a*(B.getD k []).getD i 0) hp];rw[show B.getD p []=b by rw[iO,lF hp,Option.getD_some,e]]
def bG (m:bQ)(L:List (List Int))(u:List Int):List Rat:=(List.range L.length).map λj=>jW m u (L.getD j [])
theorem OE (m:bQ)(L:List (List Int)):aw2 m.n L.length λv j=>mZ m.n v (vf (aZ (aU m) (L.getD j []))) :=
 ⟨λu v h j _=>(Fq m.n _).loc u v h 0 (by decide),λu v c j _=>(Fq m.n (vf (aZ (aU m) (L.getD j [])))).add u v c 0 (by decide),λj _=>(Fq m.n (vf (aZ (aU m) (L.getD j [])))).zero 0 (by decide)⟩
theorem Ij {K L V V2:List (List Int)}{rs r1 r2:List dh}(ok:m.Ok)(j:Join m V K [] r1)(j2:Join (aU m) V2 L [] r2)(e:MI L.length rs)(h1:∀ r,r ∈ rs->cZ L.length (K.map (bG m L)) (vf r.v))(h2:∀ u,u ∈ K->cZ L.length (pz rs) (vf (bG m L u))) :
  yA (λ(u l:Wd m.k)=>jW m u.1 l.1) rs.length:=by
 classical
 have inK:∀ u,u ∈ K->iy m.k u:=λu hu=>j.EO.uN u (.inl (j.EO.sub u hu));have inL:∀ u,u ∈ L->iy m.k u:=λu hu=>by have:=j2.EO.uN u (.inl (j2.EO.sub u hu));rwa [lg] at this
 have hv:∀ u,iy m.k u->cZ L.length (pz rs) λi=>jW m u (L.getD i []):=λu hu=>by
  have hs:=(j.EO.reach u hu λq hq=>by cases hq).mono (C:=xk m K) λb hb=>by
   obtain⟨z,hz,rfl⟩:=jH hb;exact List.mem_map.2 ⟨z,(eY.1 hz).1,rfl⟩
  refine hs.map (OE m L) λb hb=>?_;obtain⟨z,hz,rfl⟩:=jH hb;exact (h2 z hz).congr λi hi=>by
   show _=(bG m L z).getD i 0
   unfold bG;rw[aO _ _ hi];rfl
 have hl:∀ l,iy m.k l->cZ m.n (xk (aU m) L) (vf (aZ (aU m) l)):=λl hl =>
  (j2.EO.reach l (by rw[lg];exact hl) λq hq=>by cases hq).mono λb hb=>by
   obtain⟨z,hz,rfl⟩:=jH hb;exact List.mem_map.2 ⟨z,(eY.1 hz).1,rfl⟩
 obtain⟨E,hE⟩:=Classical.axiomOfChoice (r:=λ(u:Wd m.k) (c:Nat->Rat)=>∀ i,i<L.length->jW m u.1 (L.getD i [])=aW (λk=>c k*((pz rs).getD k []).getD i 0) (pz rs).length) λu=>(hv u.1 u.2).bc6;obtain⟨D,hD⟩:=Classical.axiomOfChoice (r:=λ(l:Wd m.k) (c:Nat->Rat)=>∀ i,i<m.n->vf (aZ (aU m) l.1) i=aW (λk=>c k*((xk (aU m) L).getD k []).getD i 0) (xk (aU m) L).length) λl=>(hl l.1 l.2).bc6;have hrl:(pz rs).length=rs.length:=by simp[pz]
 have hll:(xk (aU m) L).length=L.length:=by simp[xk]
 have bC0:OD (λ(u l:Wd m.k)=>jW m u.1 l.1) rs.length:=by
  refine⟨E,λk l=>aW (λi=>D l i*((pz rs).getD k []).getD i 0) L.length,λu l=>?_⟩;show jW m u.1 l.1=_
  have e1:jW m u.1 l.1=aW (λi=>D l i*jW m u.1 (L.getD i [])) L.length:=by
   unfold jW mZ;rw[show aW (λi=>vf (aZ m u.1) i*vf (aZ (aU m) l.1) i) m.n=aW (λi=>aW (λk=>D l k*(vf (aZ m u.1) i*vf (aZ (aU m) (L.getD k [])) i)) L.length) m.n from aF λi hi=>by
    rw[hD l i hi,hll,<- ig];refine aF λk hk=>?_;rw[show (xk (aU m) L).getD k []=aZ (aU m) (L.getD k []) by
     unfold xk;rw[iO,List.getElem?_map,lF hk,iO,lF hk];rfl]
    rw[<- Rat.mul_assoc,<- Rat.mul_assoc,Rat.mul_comm (vf (aZ m u.1) i)]]
   rw[pJ];exact aF λk _=>by rw[ig]
  rw[e1,show aW (λi=>D l i*jW m u.1 (L.getD i [])) L.length=aW (λi=>aW (λk=>E u k*(D l i*((pz rs).getD k []).getD i 0)) rs.length) L.length from aF λi hi=>by
   rw[hE u i hi,hrl,<- ig];exact aF λk _=>by rw[<- Rat.mul_assoc,<- Rat.mul_assoc,Rat.mul_comm (D l i)]]
  rw[pJ];exact aF λk _=>by rw[ig]
 refine TR e bC0 (K.filterMap λu=>if h:iy m.k u then some ⟨u,h⟩ else none) (λi=>if h:iy m.k (L.getD i []) then ⟨L.getD i [],h⟩ else ⟨[],λx hx=>by cases hx⟩) λr hr=>(h1 r hr).mono λb hb=>?_
 obtain⟨u,hu,rfl⟩:=jH hb;refine List.mem_map.2 ⟨⟨u,inK u hu⟩,List.mem_filterMap.2 ⟨u,hu,by rw[dif_pos (inK u hu)]⟩,?_⟩
 refine List.map_congr_left λi hi=>?_;have hi:=List.mem_range.1 hi;rw[dif_pos (inL _ (getD_mem hi []))]
end
def MJ (B:Nat)(rs:List dh):Prop:=∀ k r,rs[k]? = some r->(∀ i,sz (r.v.getD i 0)+1<=4 ^ k*(B+1))/\∀ i,sz (r.c.getD i 0)+1<=4 ^ k*(B+1)
section
variable {B:Nat}{rs:List dh}{w t:List Rat}
theorem Jr {f:Nat->Rat}{C:Nat}(n:Nat)(hC:1<=C)(h:∀ i,sz (f i)<=C)(i:Nat):sz (((List.range n).map f).getD i 0)<=C:=by
 rcases Nat.lt_or_ge i n with hi|hi
 .rw[aO _ _ hi];exact h i
 .rw[iO,List.getElem?_eq_none (by simp;exact hi),Option.getD_none,fH];exact hC
theorem X9 {r:dh}{C:Nat}(hw:∀ i,sz (w.getD i 0)+1<=C)(hr:∀ i,sz (r.v.getD i 0)+1<=C):sz (kz w r)+2<=2*C:=by
 have h:=TL (w.getD r.p 0) (r.v.getD r.p 0);have h1:=hw r.p;have h2:=hr r.p;unfold kz;omega
theorem Js {r:dh}{C:Nat}(hw:∀ i,sz (w.getD i 0)+1<=C)(hr:∀ i,sz (r.v.getD i 0)+1<=C)(i:Nat):sz ((jr w r).getD i 0)+1<=4*C:=by
 have hC:1<=C:=Nat.le_trans (Nat.le_add_left 1 _) (hw 0);have key:sz ((jr w r).getD i 0)<=4*C-1:=Jr w.length (f:=λi=>w.getD i 0-kz w r*r.v.getD i 0) (by omega) (λi=>by
  have h1:=as4 (w.getD i 0) (kz w r*r.v.getD i 0);have h2:=jS (kz w r) (r.v.getD i 0);have h3:=X9 hw hr;have h4:=hw i;have h5:=hr i;omega) i
 omega
theorem aO7 {r:dh}{C:Nat}(hw:∀ i,sz (w.getD i 0)+1<=C)(ht:∀ i,sz (t.getD i 0)+1<=C)(hr:∀ i,sz (r.v.getD i 0)+1<=C)(hc:∀ i,sz (r.c.getD i 0)+1<=C)(i:Nat):sz ((Ii t (kz w r) r.c).getD i 0)+1<=4*C:=by
 have hC:1<=C:=Nat.le_trans (Nat.le_add_left 1 _) (hw 0);have key:sz ((Ii t (kz w r) r.c).getD i 0)<=4*C-1:=Jr t.length (f:=λi=>t.getD i 0+kz w r*r.c.getD i 0) (by omega) (λi=>by
  have h1:=zQ (t.getD i 0) (kz w r*r.c.getD i 0);have h2:=jS (kz w r) (r.c.getD i 0);have h3:=X9 hw hr;have h4:=ht i;have h5:=hc i;omega) i
 omega
theorem ZU:∀ (rs:List dh) (j:Nat) (w:List Rat),(∀ k r,rs[k]? = some r->∀ i,sz (r.v.getD i 0)+1<=4 ^ (j+k)*(B+1))->(∀ i,sz (w.getD i 0)+1<=4 ^ j*(B+1))->∀ i,sz ((bC rs w).getD i 0)+1<=4 ^ (j+rs.length)*(B+1)
 | [],_,_,_,hw,i=>hw i
 | r :: rs, j, w, h, hw, i => by
  have h0:=h 0 r rfl;rw[Nat.add_zero] at h0;have:=ZU rs (j+1) (jr w r) (λk q hq=>by
   have:=h (k+1) q hq
   rwa [show j+(k+1)=j+1+k by omega] at this) (λi=>by
   have:=Js hw h0 i
   rwa [Nat.pow_succ,Nat.mul_comm (4 ^ j),Nat.mul_assoc]) i
  rwa [bC,List.length_cons,show j+(rs.length+1)=j+1+rs.length by omega]
theorem VG:∀ (rs:List dh) (j:Nat) (w t:List Rat),(∀ k r,rs[k]? = some r->(∀ i,sz (r.v.getD i 0)+1<=4 ^ (j+k)*(B+1))/\∀ i,sz (r.c.getD i 0)+1<=4 ^ (j+k)*(B+1))->(∀ i,sz (w.getD i 0)+1<=4 ^ j*(B+1))->(∀ i,sz (t.getD i 0)+1<=4 ^ j*(B+1)) ->
  ∀ i,sz ((sZ rs w t).getD i 0)+1<=4 ^ (j+rs.length)*(B+1)
 | [],_,_,_,_,_,ht,i=>ht i
 | r :: rs, j, w, t, h, hw, ht, i => by
  have h0:=h 0 r rfl;rw[Nat.add_zero] at h0;have:=VG rs (j+1) (jr w r) (Ii t (kz w r) r.c) (λk q hq=>by
   have:=h (k+1) q hq
   rwa [show j+(k+1)=j+1+k by omega] at this) (λi=>by
   have:=Js hw h0.1 i
   rwa [Nat.pow_succ,Nat.mul_comm (4 ^ j),Nat.mul_assoc]) (λi=>by
   have:=aO7 hw ht h0.1 h0.2 i
   rwa [Nat.pow_succ,Nat.mul_comm (4 ^ j),Nat.mul_assoc]) i
  rwa [sZ,List.length_cons,show j+(rs.length+1)=j+1+rs.length by omega]
theorem MJ.nil:MJ B []:=λk r h=>by cases h
theorem MJ.take (h:MJ B rs)(j:Nat):MJ B (rs.take j):=λk r hk=>by
 rw[List.getElem?_take] at hk
 split at hk
 .exact h k r hk
 .cases hk
theorem MJ.red (h:MJ B rs)(hw:∀ i,sz (w.getD i 0)<=B)(i:Nat):sz ((bC rs w).getD i 0)+1<=4 ^ rs.length*(B+1):=by
 have:=ZU rs 0 w (λk r hk=>by rw[Nat.zero_add];exact (h k r hk).1) (λi=>by rw[Nat.pow_zero,Nat.one_mul];have:=hw i;omega) i
 rwa [Nat.zero_add] at this
theorem OH (n i:Nat):(List.replicate n (0:Rat)).getD i 0=0:=by
 rw[iO,List.getElem?_replicate]
 split <;> rfl
theorem MJ.sZ (h:MJ B rs)(h1:1<=B)(hw:∀ i,sz (w.getD i 0)<=B)(n i:Nat):sz ((Go.AL.sZ rs w (List.replicate n 0)).getD i 0)+1<=4 ^ rs.length*(B+1):=by
 have:=VG rs 0 w (List.replicate n 0) (λk r hk=>by rw[Nat.zero_add];exact h k r hk) (λi=>by rw[Nat.pow_zero,Nat.one_mul];have:=hw i;omega) (λi=>by rw[Nat.pow_zero,Nat.one_mul,OH,fH];omega) i
 rwa [Nat.zero_add] at this
theorem VH (k:Nat):1<=4 ^ k:=Nat.one_le_pow _ _ (by decide)
theorem MJ.Nh (h:MJ B rs)(h1:1<=B)(hw:∀ i,sz (w.getD i 0)<=B)(i:Nat):sz ((Go.AL.Nh rs w).getD i 0)+1<=4 ^ rs.length*(B+1):=by
 have hp:B+1<=4 ^ rs.length*(B+1):=Nat.le_mul_of_pos_left _ (VH _);have hl:((jU rs w).map λx=>-x).length=(jU rs w).length:=dL ..;unfold Go.AL.Nh;rw[iO];rcases Nat.lt_or_ge i (jU rs w).length with hi|hi
 .rw[List.getElem?_append_left (by rw[hl];exact hi),List.getElem?_map,lF hi,Option.map_some,Option.getD_some,EY]
  have:=h.sZ h1 hw rs.length i;rw[iO,show Go.AL.sZ rs w (List.replicate rs.length 0)=jU rs w from rfl,lF hi,Option.getD_some] at this
  exact this
 .rw[List.getElem?_append_right (by rw[hl];exact hi),hl]
  rcases Nat.eq_zero_or_pos (i-(jU rs w).length) with h0|h0
  .rw[h0];show sz 1+1<=_
   rw[yG];omega
  .rw[List.getElem?_eq_none (by rw[kC];exact h0),Option.getD_none,fH];omega
theorem MJ.grow (h:MJ B rs)(h1:1<=B)(hw:∀ i,sz (w.getD i 0)<=B):MJ B (rs++[newR rs w]):=λk r hk=>by
 rcases Nat.lt_or_ge k rs.length with hi|hi
 .rw[List.getElem?_append_left hi] at hk;exact h k r hk
 .rw[List.getElem?_append_right hi] at hk;rcases Nat.eq_zero_or_pos (k-rs.length) with h0|h0
  .rw[h0] at hk;cases hk
   have e:k=rs.length:=by omega
   subst e;exact⟨λi=>h.red hw i,λi=>h.Nh h1 hw i⟩
  .rw[List.getElem?_eq_none (by rw[kC];exact h0)] at hk;cases hk
theorem MJ.add (h:MJ B rs)(h1:1<=B)(hw:∀ i,sz (w.getD i 0)<=B):MJ B (tq rs w):=by
 unfold tq
 split
 .exact h.grow h1 hw
 .exact h
end
def Ans (m:bQ):Option (List Int)->Prop
 | none=>∀ w,iy m.k w->kU m w=0
 | some w=>yZ m w
section
variable {m m2:bQ}{V K Q:List (List Int)}{rs:List dh}{w:List Int}{o p:Option (List Int)}
theorem Ans.unique (h:Ans m o)(k:Ans m p):o=p:=by
 cases o with
 | none =>
  cases p with
  | none=>rfl
  | some w=>exact absurd (h w k.uN) k.nz
 | some v =>
  cases p with
  | none=>exact absurd (k v h.uN) h.nz
  | some w=>rw[yZ.unique h k]
theorem Ans.congr (hk:m2.k=m.k)(e:∀ w,iy m.k w->(kU m w=0 ↔ kU m2 w=0))(h:Ans m o):Ans m2 o:=by
 cases o with
 | none=>exact λw hw=>(e w (hk ▸ hw)).1 (h w (hk ▸ hw))
 | some v=>exact⟨hk ▸ h.uN,λz=>h.nz ((e v h.uN).2 z),λu hu hl=>(e u (hk ▸ hu)).1 (h.before u (hk ▸ hu) hl)⟩
structure BI (K Q:List (List Int)):Prop where
 kept:∀ (i:Nat) (u:List Int),K[i]? = some u->u.length<=i
 open_:∀ q:List Int,q ∈ Q->q.length<=K.length
theorem BI.start:BI [] [[]]:=⟨λi u h=>(by cases h),λq h=>(by rw[lV h];exact Nat.le_refl _)⟩
theorem BI.drop (h:BI K (w::Q)):BI K Q:=⟨h.kept,λq hq=>h.open_ q (List.mem_cons_of_mem _ hq)⟩
theorem BI.keep {k:Nat}(h:BI K (w::Q)):BI (K++[w]) (Q++dD k w):=by
 have hw:=h.open_ w rY;refine⟨λi u hi=>?_,λq hq=>?_⟩
 .rcases Nat.lt_or_ge i K.length with hl|hl
  .rw[List.getElem?_append_left hl] at hi;exact h.kept i u hi
  .rw[List.getElem?_append_right hl] at hi;rcases Nat.eq_zero_or_pos (i-K.length) with h0|h0
   .rw[h0] at hi;cases hi;omega
   .rw[List.getElem?_eq_none (by rw[kC];exact h0)] at hi;cases hi
 .rw[jd,kC];rcases ru hq with hq|hq
  .have:=h.open_ q (List.mem_cons_of_mem _ hq);omega
  .obtain⟨s,_,rfl⟩:=CO.1 hq;rw[jd,kC];omega
theorem Join.new (ok:m.Ok)(j:Join m V K (w::Q) rs)(hz:Fz m K)(hn:kU m w≠0):bW rs (aZ m w)=true:=by
 cases hg:bW rs (aZ m w) with
 | true=>rfl
 | false =>
  refine absurd ?_ hn;have hs:=((zh j.ech (lu ok w)).1 hg).trans λb hb=>by
   obtain⟨r,hr,rfl⟩:=jH hb;exact j.rows r hr
  refine hs.kill (L:=λu _=>mZ m.n u (vf m.fin)) (Fq m.n (vf m.fin)) λb hb=>?_;obtain⟨u,hu,rfl⟩:=jH hb;exact hz u hu
theorem Fz.add (hz:Fz m K)(h:kU m w=0):Fz m (K++[w]):=λu hu=>(ru hu).elim (hz u) λhu=>by rw[lV hu];exact h
theorem Ya (ok:m.Ok):∀ (N:Nat) (V K Q:List (List Int)) (rs:List dh),Join m V K Q rs->Fz m K->BI K Q->jM m Q rs<=N->∃ o,Ans m o/\∀ w,o=some w->w.length<m.n:=by
 intro N
 induction N with
 | zero =>
  intro V K Q rs j hz _ hN;cases Q with
  | nil=>exact⟨none,j.EO.none hz,λw h=>(by cases h)⟩
  | cons w Q=>unfold jM at hN;rw[List.length_cons] at hN;omega
 | succ N ih =>
  intro V K Q rs j hz hl hN;cases Q with
  | nil=>exact⟨none,j.EO.none hz,λw h=>(by cases h)⟩
  | cons w Q =>
   by_cases h0:kU m w=0
   .cases hg:bW rs (aZ m w) with
    | true=>exact ih _ _ _ _ (j.keep ok hg) (hz.add h0) hl.keep (by have:=CP ok j hg;omega)
    | false=>exact ih _ _ _ _ (j.drop ok hg) hz hl.drop (by have:=vI (m:=m) (Q:=Q) (rs:=rs) (w:=w);omega)
   .refine⟨some w,j.EO.first hz h0,λv e=>?_⟩
    cases e
    have h1:=(j.keep ok (j.new ok hz h0)).le;have h2:=hl.open_ w rY;have h3:=j.len;rw[jd,kC] at h1;omega
theorem bc7 (ok:m.Ok):∃ o,Ans m o/\∀ w,o=some w->w.length<m.n:=Ya ok _ _ _ _ _ (Join.start m) (λ_ h=>by cases h) BI.start (Nat.le_refl _)
open Classical in
noncomputable def tu (m:bQ):Option (List Int):=if h:∃ o,Ans m o then h.choose else none
theorem FC (ok:m.Ok):Ans m (tu m):=by
 have h:∃ o,Ans m o:=(bc7 ok).imp λ_ h=>h.1;unfold tu;rw[dif_pos h];exact h.choose_spec
theorem Eo (h:Ans m o):tu m=o:=by
 have h':∃ o,Ans m o:=⟨o,h⟩;unfold tu;rw[dif_pos h'];exact Ans.unique h'.choose_spec h
theorem Ep (ok:m.Ok):tu m=none ↔ ∀ w,iy m.k w->kU m w=0 :=
 ⟨λh=>by have:=FC ok;rw[h] at this;exact this,λh=>Eo (o:=none) h⟩
theorem Qd (ok:m.Ok)(hk:m2.k=m.k)(e:∀ w,iy m.k w->(kU m w=0 ↔ kU m2 w=0)):tu m2=tu m:=Eo ((FC ok).congr hk e)
end
theorem VI {p:Nat->Prop}:∀ n,p n->∃ r,p r/\∀ s,p s->r<=s:=by
 intro n
 induction n using Nat.strongRecOn with
 | ind n ih =>
  intro h;by_cases hx:∃ k,k<n/\p k
  .obtain⟨k,hk,hp⟩:=hx;exact ih k hk hp
  .exact⟨n,h,λs hs=>Decidable.byContradiction λhlt=>hx ⟨s,by omega,hs⟩⟩
def FD (k:Nat)(f:List Int->Rat):Wd k->Wd k->Rat:=λu l=>f (u.1++l.1.reverse)
theorem aO8 {α β:Type}{H:α->β->Rat}{n:Nat}(h:OD H n):∃ r,yA H r :=
 have ⟨r,h1,h2⟩:=VI (p:=OD H) n h
 ⟨r,h1,h2⟩
open Classical in
noncomputable def EI (k:Nat)(f:List Int->Rat):Nat:=if h:∃ r,yA (FD k f) r then h.choose else 0
section
variable {m:bQ}{k r:Nat}{f g:List Int->Rat}
theorem Jt (h:yA (FD k f) r):EI k f=r:=by
 have h':∃ r,yA (FD k f) r:=⟨r,h⟩;unfold EI;rw[dif_pos h'];exact yA.unique h'.choose_spec h
theorem Yb {n:Nat}(h:OD (FD k f) n):yA (FD k f) (EI k f):=by
 obtain⟨r,hr⟩:=aO8 h;rw[Jt hr];exact hr
theorem aO9 {u l:List Int}(hu:iy k u)(hl:iy k l):iy k (u++l.reverse):=λx hx=>(ru hx).elim (hu x) λh=>hl x (List.mem_reverse.1 h)
theorem ah2 (h:∀ w,iy k w->f w=g w):FD k f=FD k g:=by
 funext u l;exact h _ (aO9 u.2 l.2)
theorem VJ (m:bQ):OD (FD m.k (kU m)) m.n :=
 ⟨λu i=>vf (aZ m u.1) i,λi l=>vf (aZ (aU m) l.1) i,λu l=>(Bv l.1 u.1 l.2).symm⟩
theorem Kz (m:bQ):yA (FD m.k (kU m)) (EI m.k (kU m)):=Yb (VJ m)
theorem aP0 (m:bQ):EI m.k (kU m)<=m.n:=(Kz m).least _ (VJ m)
theorem ah3 {s:Nat}(h:yA (FD k f) r)(h2:yA (FD k λw=>f w.reverse) s):s=r:=by
 have e:FD k (λw=>f w.reverse)=λb a=>FD k f a b:=by
  funext u l;unfold FD;show f (u.1++l.1.reverse).reverse=f (l.1++u.1.reverse)
  rw[List.reverse_append,List.reverse_reverse]
 rw[e] at h2;exact h2.unique h.turn

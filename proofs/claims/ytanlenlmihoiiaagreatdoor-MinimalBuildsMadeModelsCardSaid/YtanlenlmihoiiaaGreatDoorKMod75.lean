/-
  M, chapters 23 and 24: the rank of a machine's series, as the code finds it.
-/
import Derived.Test.YtanlenlmihoiiaaGreatDoorKMod71
set_option linter.unusedVariables false
set_option linter.unusedSimpArgs false
namespace Go.AL
open Go Go.BigFrame
def dX (w:List Rat):Nat:=w.findIdx λx=>decide (x≠0)
def IA (t:List Rat)(f:Rat)(c:List Rat):List Rat:=(List.range t.length).map λi=>t.getD i 0+f*c.getD i 0
def tX:List bZ->List Rat->List Rat->List Rat
 | [],_,t=>t
 | r::rs,w,t=>tX rs (jg w r) (IA t (fJ w r) r.c)
def jS (rs:List bZ)(w:List Rat):List Rat:=tX rs w (List.replicate rs.length 0)
def NJ (rs:List bZ)(w:List Rat):List Rat:=(jS rs w).map (λx=>-x)++[1]
def newR (rs:List bZ)(w:List Rat):bZ:=⟨aO rs w,NJ rs w,dX (aO rs w)⟩
def bM (rs:List bZ)(w:List Rat):Bool:=decide (dX (aO rs w)<(aO rs w).length)
def uK (rs:List bZ)(w:List Rat):List bZ:=if bM rs w=true then rs++[newR rs w] else rs
section
variable {n:Nat}{rs:List bZ}{w:List Rat}
theorem KP (w:List Rat):dX w<=w.length:=List.findIdx_le_length
theorem tY (h:dX w<w.length):w.getD (dX w) 0≠0:=by
 have:=List.findIdx_getElem (w:=h);rw[jh,lQ h,Option.getD_some];exact lK this
theorem qV {i:Nat}(h:i<dX w):w.getD i 0=0:=by
 have hl:=Nat.lt_of_lt_of_le h (KP w);have:=List.not_of_lt_findIdx h;rw[jh,lQ hl,Option.getD_some];simpa using this
theorem Ph:dX w=w.length ↔ bm9 w:=by
 constructor
 .intro h i hi;exact qV (by omega)
 .intro h;have:=KP w;rcases Nat.lt_or_ge (dX w) w.length with h1|h1
  .exact absurd (h _ h1) (tY h1)
  .omega
theorem Ad (e:Np n rs)(hw:w.length=n):bM rs w=false ↔ dh n (o9 rs) (vf w):=by
 rw[<- aO7 e hw,<- Ph];have:=KP (aO rs w);unfold bM;rw[decide_eq_false_iff_not];omega
theorem Ws (t:List Rat)(f:Rat)(c:List Rat):(IA t f c).length=t.length:=by simp[IA]
theorem Pj:∀ (rs:List bZ) (w t:List Rat),(tX rs w t).length=t.length
 | [],_,_=>rfl
 | r::rs,w,t=>by rw[tX,Pj rs,Ws]
theorem Bq (rs:List bZ)(w:List Rat):(jS rs w).length=rs.length:=by rw[jS,Pj,List.length_replicate]
theorem UG (rs:List bZ)(w:List Rat):(NJ rs w).length=rs.length+1:=by rw[NJ,jd,dA,Bq];rfl
end
structure Join (m:bV) (V K Q:List (List Int)) (rs:List bZ):Prop where
 Kz:RS m V K Q
 ech:Np m.n rs
 len:rs.length=K.length
 rows:∀ r,r ∈ rs->dh m.n (tV m K) (vf r.v)
 kept:∀ u,u ∈ K->dh m.n (o9 rs) (vf (bF m u))
section
variable {m:bV}{V K Q:List (List Int)}{rs:List bZ}{w:List Int}
theorem Join.start (m:bV):Join m [] [] [[]] [] :=
 ⟨RS.start m,⟨λ_ h=>(by cases h),List.Pairwise.nil⟩,rfl,λ_ h=>(by cases h),λ_ h=>(by cases h)⟩
theorem Join.drop (ok:m.Ok)(j:Join m V K (w::Q) rs)(h:bM rs (bF m w)=false):Join m (V++[w]) K Q rs :=
 ⟨j.Kz.drop (((Ad j.ech (jl ok w)).1 h).trans λb hb=>by
  obtain⟨r,hr,rfl⟩:=kK hb;exact j.rows r hr),j.ech,j.len,j.rows,j.kept⟩
theorem KQ (rs:List bZ)(r:bZ):o9 (rs++[r])=o9 rs++[r.v]:=by simp[o9]
theorem Join.keep (ok:m.Ok)(j:Join m V K (w::Q) rs)(h:bM rs (bF m w)=true):Join m (V++[w]) (K++[w]) (Q++cu m.k w) (rs++[newR rs (bF m w)]):=by
 have hl:=jl ok w;have hp:dX (aO rs (bF m w))<(aO rs (bF m w)).length:=lK h;have hs:=DR rs (bF m w);rw[hl] at hs;refine⟨j.Kz.keep,j.ech.grow hl _ (by rw[jk,hl] at hp;exact hp) (tY hp),?_,λr hr=>?_,λu hu=>?_⟩
 .rw[jd,jd,j.len];rfl
 .rcases uy hr with hr|hr
  .exact (j.rows r hr).mono λb hb=>by
    obtain⟨u,hu,rfl⟩:=kK hb;exact List.mem_map.2 ⟨u,List.mem_append.2 (.inl hu),rfl⟩
  .rw[jJ hr];have h1:dh m.n (tV m (K++[w])) (vf (bF m w)):=.mem (List.mem_map.2 ⟨w,List.mem_append.2 (.inr (List.mem_singleton.2 rfl)),rfl⟩);have h2:=(hs.trans λb hb=>by
    obtain⟨r,hr,rfl⟩:=kK hb;exact (j.rows r hr).mono λb hb=>by
     obtain⟨u,hu,rfl⟩:=kK hb;exact List.mem_map.2 ⟨u,List.mem_append.2 (.inl hu),rfl⟩:dh m.n (tV m (K++[w])) _)
   refine (h1.plus (h2.smul (-1))).congr λi _=>?_;show (aO rs (bF m w)).getD i 0=(bF m w).getD i 0 + -1*((bF m w).getD i 0-(aO rs (bF m w)).getD i 0)
   rw[Rat.neg_mul,Rat.one_mul,Rat.neg_sub,Rat.sub_eq_add_neg,Rat.add_comm ((bF m w).getD i 0),Rat.add_assoc,Rat.neg_add_cancel,Rat.add_zero]
 .rw[KQ];rcases uy hu with hu|hu
  .exact (j.kept u hu).mono λb hb=>List.mem_append.2 (.inl hb)
  .rw[jJ hu];have h1:=hs.mono (C:=o9 rs++[aO rs (bF m w)]) λb hb=>List.mem_append.2 (.inl hb);have h2:dh m.n (o9 rs++[aO rs (bF m w)]) (vf (aO rs (bF m w))):=.mem (List.mem_append.2 (.inr (List.mem_singleton.2 rfl)));refine (h1.plus h2).congr λi _=>?_;show (bF m w).getD i 0=(bF m w).getD i 0-(aO rs (bF m w)).getD i 0+(aO rs (bF m w)).getD i 0
   rw[Rat.sub_add_cancel]
theorem Join.le (j:Join m V K Q rs):rs.length<=m.n:=j.ech.len
def iP (m:bV)(Q:List (List Int))(rs:List bZ):Nat:=Q.length+(m.k+1)*(m.n-rs.length)
theorem GU (ok:m.Ok)(j:Join m V K (w::Q) rs)(h:bM rs (bF m w)=true):iP m (Q++cu m.k w) (rs++[newR rs (bF m w)])<iP m (w::Q) rs:=by
 have h1:=(j.keep ok h).le;rw[jd,iY] at h1;unfold iP;rw[show (Q++cu m.k w).length=Q.length+(cu m.k w).length from jd,show (rs++[newR rs (bF m w)]).length=rs.length+1 by simp,show (w::Q).length=Q.length+1 from rfl,show (cu m.k w).length=m.k by simp[cu]]
 obtain⟨d,hd⟩:∃ d,m.n-rs.length=d+1:=⟨m.n-rs.length-1,by omega⟩
 rw[hd,show m.n-(rs.length+1)=d by omega,Nat.mul_succ]
 omega
theorem xO:iP m Q rs<iP m (w::Q) rs:=by
 unfold iP;rw[List.length_cons];omega
end
structure bU where
 f:Nat
 l:Nat
 t:Nat
 q:Rat
instance:Inhabited bU:=⟨⟨0,0,0,0⟩⟩
structure Au where
 sym:Nat
 st:Nat
 ini:List Rat
 fin:List Rat
 aN:List bU
instance:Inhabited Au:=⟨⟨0,0,[],[],[]⟩⟩
structure Au.Ok (a:Au):Prop where
 Jl:1<=a.sym
 ini:a.ini.length=a.st
 fin:a.fin.length=a.st
 arc:∀ x,x ∈ a.aN->x.f<a.st/\x.t<a.st/\1<=x.l/\x.l<=a.sym
def jf (l:List bU)(s i j:Nat):Rat:=oD (λx=>if x.f=i/\x.l=s+1/\x.t=j then x.q else 0) l
def aS (l:List Au):Nat:=(l.map (·.st)).sum
def uM:List Au->Nat->Nat->Nat->Rat
 | [],_,_,_=>0
 | a::r,s,i,j=>if i<a.st then (if j<a.st then jf a.aN s i j else 0) else (if j<a.st then 0 else uM r s (i-a.st) (j-a.st))
def Ig (n:Nat)(f:Nat->Nat->Rat):List (List Rat):=(List.range n).map λi=>(List.range n).map λj=>f i j
def UH:List Au->List Rat
 | []=>[]
 | a::r=>a.fin++r.flatMap λb=>b.fin.map λx=>-x
def ah (l:List Au):bV:=⟨aS l,l.flatMap (·.ini),UH l,(List.range (l.getD 0 default).sym).map λs=>Ig (aS l) (uM l s)⟩
section
variable {a b:Au}{l:List Au}{s i j n:Nat}
theorem NK {f:Nat->Nat->Rat}(hi:i<n)(hj:j<n):((Ig n f).getD i []).getD j 0=f i j:=by
 unfold Ig;rw[aT _ _ hi,aT _ _ hj]
theorem GV:(ah l).k=(l.getD 0 default).sym:=by simp[bV.k,ah]
theorem RV (hs:s<(l.getD 0 default).sym)(hi:i<aS l)(hj:j<aS l):qJ (ah l) s i j=uM l s i j:=by
 unfold qJ ah;rw[aT _ _ hs,NK hi hj]
theorem kG:aS [a]=a.st:=by simp[aS]
theorem Wu (ha:a.Ok):(ah [a]).Ok:=⟨by simp[ah,aS,ha.ini],by simp[ah,UH,aS,ha.fin]⟩
theorem Wv (f:Nat->Rat)(n:Nat):∀ m,bD f (n+m)=bD f n+bD (λi=>f (n+i)) m
 | 0=>by rw[Nat.add_zero,bD,Rat.add_zero]
 | m+1=>by rw[<- Nat.add_assoc,bD,Wv f n m,bD,Rat.add_assoc]
def xA (a:Au)(w:List Int):Rat:=yH (ah [a]) w
end
section
variable {n:Nat}
theorem Wx {α:Type}(p:α->Prop):∀ l:List α,(∀ x,x ∈ l->p x) \/ ∃ a x z,l=a++x::z/\¬ p x/\∀ y,y ∈ z->p y
 | []=>.inl λ_ h=>by cases h
 | x :: r => by
  rcases Wx p r with h|⟨a,y,z,e,h1,h2⟩
  .by_cases hx:p x
   .exact .inl λy hy=>(List.mem_cons.1 hy).elim (λe=>e ▸ hx) (h y)
   .exact .inr ⟨[],x,r,rfl,hx,h⟩
  .exact .inr ⟨x::a,y,z,by rw[e];rfl,h1,h2⟩
def aP1 (n:Nat)(f:bZ->Rat)(r x:bZ):bZ:=⟨(List.range n).map λi=>x.v.getD i 0-f x*r.v.getD i 0,x.c,x.p⟩
theorem Pm {f:bZ->Rat}{r x:bZ}{i:Nat}(hi:i<n):(aP1 n f r x).v.getD i 0=x.v.getD i 0-f x*r.v.getD i 0:=aT _ _ hi
theorem F8:∀ (C:List (List Rat)) (rs:List bZ),Np n rs->(∀ r,r ∈ rs->dh n C (vf r.v))->rs.length<=C.length
 | [], rs, e, h => by
  cases rs with
  | nil=>exact Nat.le_refl _
  | cons r rs =>
   obtain⟨p1,p2⟩:=e.piv r pU;cases h r pU with
   | zero h=>exact absurd (h _ p1) p2
   | add _ hb=>cases hb
 | c :: C, rs, e, h => by
  rcases Wx (λr:bZ=>dh n C (vf r.v)) rs with hall|⟨A,r,Z,rfl,hr,hZ⟩
  .exact Nat.le_succ_of_le (F8 C rs e hall)
  .obtain⟨a,w,hw,ha⟩:=(h r (by simp)).split
   have ha0:a≠0:=λe0=>hr (hw.congr λi hi=>by rw[ha i hi,e0,Rat.zero_mul,Rat.zero_add])
   have hx:∀ x:bZ,∃ f:Rat,x ∈ A->dh n C λi=>x.v.getD i 0-f*r.v.getD i 0:=λx=>by
    by_cases hxA:x ∈ A
    .obtain⟨b,u,hu,hb⟩:=(h x (by simp[hxA])).split
     refine⟨b / a,λ_=>(hu.plus (hw.smul (-(b / a)))).congr λi hi=>?_⟩;show x.v.getD i 0-b / a*r.v.getD i 0=u i + -(b / a)*w i
     rw[show x.v.getD i 0=b*c.getD i 0+u i from hb i hi,show r.v.getD i 0=a*c.getD i 0+w i from ha i hi,Rat.mul_add,<- Rat.mul_assoc,Rat.div_mul_cancel ha0,Rat.sub_eq_add_neg,Rat.neg_add,Rat.neg_mul,Rat.add_comm (b*_),Rat.add_assoc,<- Rat.add_assoc (b*_),Rat.add_neg_cancel,Rat.zero_add]
    .exact⟨0,λk=>absurd k hxA⟩
   obtain⟨f,hf⟩:=Classical.axiomOfChoice hx;have hz:=List.pairwise_append.1 e.zero;have hz2:=List.pairwise_cons.1 hz.2.1;have hlen:=F8 C (A.map (aP1 n f r)++Z) ⟨λy hy=>?_,?_⟩ λy hy=>?_
   .rw[jd,dA] at hlen;rw[jd,List.length_cons,List.length_cons];omega
   .rcases uy hy with hy|hy
    .obtain⟨x,hxA,rfl⟩:=kK hy;obtain⟨p1,p2⟩:=e.piv x (by simp[hxA])
     refine⟨p1,?_⟩;rw[show (aP1 n f r x).p=x.p from rfl,Pm p1,hz.2.2 x hxA r pU,Rat.mul_zero,Rat.sub_eq_add_neg,Rat.neg_zero,Rat.add_zero]
     exact p2
    .exact e.piv y (by simp[hy])
   .refine List.pairwise_append.2 ⟨List.pairwise_map.2 (hz.1.imp_of_mem λ{x y} hxA hyA k=>?_),hz2.2,λx hxm y hy=>?_⟩
    .have p1:=(e.piv x (by simp[hxA])).1
     rw[show (aP1 n f r x).p=x.p from rfl,Pm p1,k,hz.2.2 x hxA r pU,Rat.mul_zero,Rat.sub_self]
    .obtain⟨x,hxA,rfl⟩:=kK hxm;exact hz.2.2 x hxA y (List.mem_cons_of_mem _ hy)
   .rcases uy hy with hy|hy
    .obtain⟨x,hxA,rfl⟩:=kK hy;exact (hf x hxA).congr λi hi=>Pm hi
    .exact hZ y hy
end
def Pn {α β:Type}(H:α->β->Rat)(r:Nat):Prop:=∃ (A:α->Nat->Rat) (B:Nat->β->Rat),∀ a b,H a b=bD (λk=>A a k*B k b) r
section
variable {α β:Type}{H G:α->β->Rat}{r s:Nat}
theorem Pn.turn (h:Pn H r):Pn (λb a=>H a b) r :=
 have ⟨A,B,e⟩:=h
 ⟨λb k=>B k b,λk a=>A a k,λb a=>by show H a b=_;rw[e];exact aJ λk _=>Rat.mul_comm ..⟩
theorem Pn.plus (h:Pn H r)(k:Pn G s):Pn (λa b=>H a b+G a b) (r+s):=by
 obtain⟨A,B,e⟩:=h;obtain⟨A2,B2,e2⟩:=k;refine⟨λa k=>if k<r then A a k else A2 a (k-r),λk b=>if k<r then B k b else B2 (k-r) b,λa b=>?_⟩
 show H a b+G a b=_
 rw[Wv,e,e2];congr 1
 .exact aJ λk hk=>by simp only[if_pos hk]
 .exact aJ λk _=>by simp only[if_neg (show ¬ r+k<r by omega),Nat.add_sub_cancel_left]
theorem Pn.smul (h:Pn H r)(c:Rat):Pn (λa b=>c*H a b) r :=
 have ⟨A,B,e⟩:=h
 ⟨λa k=>c*A a k,B,λa b=>by show c*H a b=_;rw[e,<- iq];exact aJ λk _=>(Rat.mul_assoc ..).symm⟩
theorem Pn.map {α2 β2:Type}(h:Pn H r)(f:α2->α)(g:β2->β):Pn (λa b=>H (f a) (g b)) r :=
 have ⟨A,B,e⟩:=h
 ⟨λa k=>A (f a) k,λk b=>B k (g b),λa b=>e _ _⟩
theorem Pn.zero:Pn H 0 ↔ ∀ a b,H a b=0 :=
 ⟨λ⟨_,_,e⟩ a b=>by rw[e];rfl,λh=>⟨λ_ _=>0,λ_ _=>0,λa b=>by rw[h];rfl⟩⟩
structure yS (H:α->β->Rat) (r:Nat):Prop where
 fac:Pn H r
 least:∀ s,Pn H s->r<=s
theorem yS.unique (h:yS H r)(k:yS H s):r=s:=Nat.le_antisymm (h.least _ k.fac) (k.least _ h.fac)
theorem yS.turn (h:yS H r):yS (λb a=>H a b) r:=⟨h.fac.turn,λs k=>h.least s k.turn⟩
theorem UI {n:Nat}{rs:List bZ}(e:Np n rs)(fac:Pn H rs.length)(V:List α)(cols:Nat->β)(hv:∀ r,r ∈ rs->dh n (V.map λa=>(List.range n).map λj=>H a (cols j)) (vf r.v)):yS H rs.length :=
 ⟨fac,λs ⟨A,B,hs⟩=>by
  have h:=F8 (n:=n) ((List.range s).map λk=>(List.range n).map λj=>B k (cols j)) rs e λr hr=>(hv r hr).trans λb hb=>by
   obtain⟨a,_,rfl⟩:=kK hb;have key:∀ t,t<=s->dh n ((List.range s).map λk=>(List.range n).map λj=>B k (cols j)) λj=>bD (λk=>A a k*B k (cols j)) t:=by
    intro t
    induction t with
    | zero=>intro _;exact .zero λ_ _=>rfl
    | succ t ih =>
     intro ht;refine .add (A a t) (List.mem_map.2 ⟨t,List.mem_range.2 (by omega),rfl⟩) (ih (by omega)) λj hj=>?_
     rw[bD,aT _ _ hj]
   exact (key s (Nat.le_refl s)).congr λj hj=>by
    show ((List.range n).map λj=>H a (cols j)).getD j 0=_
    rw[aT _ _ hj,hs]
  rw[dA,List.length_range] at h;exact h⟩
end
abbrev Wd (k:Nat):={ w:List Int // iV k w }
def aA (m:bV):bV:=⟨m.n,m.fin,m.ini,m.jb.map λM=>Ig m.n λi j=>(M.getD j []).getD i 0⟩
def jP (m:bV)(u l:List Int):Rat:=vX m.n (vf (bF m u)) (vf (bF (aA m) l))
section
variable {m:bV}{u l:List Int}{n:Nat}{B:List (List Rat)}
theorem kX:(aA m).k=m.k:=by simp[bV.k,aA]
theorem iH (h:m.Ok):(aA m).Ok:=⟨h.fin,h.ini⟩
theorem Wy {s i j:Nat}(hs:s<m.k)(hi:i<m.n)(hj:j<m.n):qJ (aA m) s i j=qJ m s j i:=by
 unfold qJ aA;have e:(m.jb.map λM=>Ig m.n λi j=>(M.getD j []).getD i 0).getD s []=Ig m.n λi j=>((m.jb.getD s []).getD j []).getD i 0:=by
  rw[jh,List.getElem?_map,lQ hs,jh,lQ hs];rfl
 rw[e,NK hi hj]
theorem WA {v x:List Rat}{s:Nat}(hs:s<m.k):vX m.n (vf (stepM m v s)) (vf x)=vX m.n (vf v) (vf (stepM (aA m) x s)):=by
 unfold vX;rw[show bD (λi=>vf (stepM m v s) i*vf x i) m.n=bD (λj=>bD (λi=>v.getD i 0*qJ m s i j*x.getD j 0) m.n) m.n from aJ λj hj=>by
  show (stepM m v s).getD j 0*_=_
  rw[DU hj,<- tN]]
 rw[pz];refine aJ λi hi=>?_;show _=v.getD i 0*(stepM (aA m) x s).getD i 0
 rw[DU (m:=aA m) hi,<- iq];refine aJ λj hj=>?_;rw[Wy hs hj hi,Rat.mul_assoc,Rat.mul_comm (qJ m s i j)]
theorem CQ:∀ (l u:List Int),iV m.k l->jP m u l=yH m (u++l.reverse):=by
 intro l
 induction hn:l.length generalizing l with
 | zero =>
  intro u _;rw[Hl hn,List.reverse_nil,List.append_nil];rfl
 | succ n ih =>
  intro u hl;have hne:l≠[]:=λe=>by subst e;cases hn
  obtain⟨y,x,rfl⟩:∃ y x,l=y++[x]:=⟨l.dropLast,l.getLast hne,(List.dropLast_concat_getLast hne).symm⟩;have hx:=hl x (by simp)
  rw[List.reverse_append,List.reverse_singleton,List.singleton_append,show u++x::y.reverse=(u++[x])++y.reverse by simp,<- ih y (by rw[jd,iY] at hn;omega) (u++[x]) λz hz=>hl z (List.mem_append.2 (.inl hz))]
  unfold jP;rw[mY,mY,<- WA (by omega)]
theorem dh.bd1 {v:Nat->Rat}(h:dh n B v):∃ c:Nat->Rat,∀ i,i<n->v i=bD (λk=>c k*(B.getD k []).getD i 0) B.length:=by
 induction h with
 | zero h=>exact⟨λ_=>0,λi hi=>by rw[h i hi];exact (kR λk _=>Rat.zero_mul _).symm⟩
 | @add u u' b a hb _ h ih =>
  obtain⟨c,hc⟩:=ih;obtain⟨p,hp,e⟩:=List.mem_iff_getElem.1 hb;refine⟨λk=>c k+if p=k then a else 0,λi hi=>?_⟩
  rw[h i hi,hc i hi,show bD (λk=>(c k+if p=k then a else 0)*(B.getD k []).getD i 0) B.length=bD (λk=>c k*(B.getD k []).getD i 0) B.length+bD (λk=>if p=k then a*(B.getD k []).getD i 0 else 0) B.length by
   rw[<- pq];refine aJ λk _=>?_;rw[Rat.add_mul];congr 1
   split
   .rfl
   .rw[Rat.zero_mul]]
  rw[vO (v:=λk=>a*(B.getD k []).getD i 0) hp];rw[show B.getD p []=b by rw[jh,lQ hp,Option.getD_some,e]]
def aZ (m:bV)(L:List (List Int))(u:List Int):List Rat:=(List.range L.length).map λj=>jP m u (L.getD j [])
theorem Po (m:bV)(L:List (List Int)):ay5 m.n L.length λv j=>vX m.n v (vf (bF (aA m) (L.getD j []))) :=
 ⟨λu v h j _=>(F6 m.n _).loc u v h 0 (by decide),λu v c j _=>(F6 m.n (vf (bF (aA m) (L.getD j [])))).add u v c 0 (by decide),λj _=>(F6 m.n (vf (bF (aA m) (L.getD j [])))).zero 0 (by decide)⟩
theorem Pq {K L V V2:List (List Int)}{rs r1 r2:List bZ}(ok:m.Ok)(j:Join m V K [] r1)(j2:Join (aA m) V2 L [] r2)(e:Np L.length rs)(h1:∀ r,r ∈ rs->dh L.length (K.map (aZ m L)) (vf r.v))(h2:∀ u,u ∈ K->dh L.length (o9 rs) (vf (aZ m L u))) :
  yS (λ(u l:Wd m.k)=>jP m u.1 l.1) rs.length:=by
 classical
 have inK:∀ u,u ∈ K->iV m.k u:=λu hu=>j.Kz.vF u (.inl (j.Kz.sub u hu));have inL:∀ u,u ∈ L->iV m.k u:=λu hu=>by have:=j2.Kz.vF u (.inl (j2.Kz.sub u hu));rwa [kX] at this
 have hv:∀ u,iV m.k u->dh L.length (o9 rs) λi=>jP m u (L.getD i []):=λu hu=>by
  have hs:=(j.Kz.reach u hu λq hq=>by cases hq).mono (C:=tV m K) λb hb=>by
   obtain⟨z,hz,rfl⟩:=kK hb;exact List.mem_map.2 ⟨z,(dV.1 hz).1,rfl⟩
  refine hs.map (Po m L) λb hb=>?_;obtain⟨z,hz,rfl⟩:=kK hb;exact (h2 z hz).congr λi hi=>by
   show _=(aZ m L z).getD i 0
   unfold aZ;rw[aT _ _ hi];rfl
 have hl:∀ l,iV m.k l->dh m.n (tV (aA m) L) (vf (bF (aA m) l)):=λl hl =>
  (j2.Kz.reach l (by rw[kX];exact hl) λq hq=>by cases hq).mono λb hb=>by
   obtain⟨z,hz,rfl⟩:=kK hb;exact List.mem_map.2 ⟨z,(dV.1 hz).1,rfl⟩
 obtain⟨E,hE⟩:=Classical.axiomOfChoice (r:=λ(u:Wd m.k) (c:Nat->Rat)=>∀ i,i<L.length->jP m u.1 (L.getD i [])=bD (λk=>c k*((o9 rs).getD k []).getD i 0) (o9 rs).length) λu=>(hv u.1 u.2).bd1;obtain⟨D,hD⟩:=Classical.axiomOfChoice (r:=λ(l:Wd m.k) (c:Nat->Rat)=>∀ i,i<m.n->vf (bF (aA m) l.1) i=bD (λk=>c k*((tV (aA m) L).getD k []).getD i 0) (tV (aA m) L).length) λl=>(hl l.1 l.2).bd1;have hrl:(o9 rs).length=rs.length:=by simp[o9]
 have hll:(tV (aA m) L).length=L.length:=by simp[tV]
 have bB3:Pn (λ(u l:Wd m.k)=>jP m u.1 l.1) rs.length:=by
  refine⟨E,λk l=>bD (λi=>D l i*((o9 rs).getD k []).getD i 0) L.length,λu l=>?_⟩;show jP m u.1 l.1=_
  have e1:jP m u.1 l.1=bD (λi=>D l i*jP m u.1 (L.getD i [])) L.length:=by
   unfold jP vX;rw[show bD (λi=>vf (bF m u.1) i*vf (bF (aA m) l.1) i) m.n=bD (λi=>bD (λk=>D l k*(vf (bF m u.1) i*vf (bF (aA m) (L.getD k [])) i)) L.length) m.n from aJ λi hi=>by
    rw[hD l i hi,hll,<- iq];refine aJ λk hk=>?_;rw[show (tV (aA m) L).getD k []=bF (aA m) (L.getD k []) by
     unfold tV;rw[jh,List.getElem?_map,lQ hk,jh,lQ hk];rfl]
    rw[<- Rat.mul_assoc,<- Rat.mul_assoc,Rat.mul_comm (vf (bF m u.1) i)]]
   rw[pz];exact aJ λk _=>by rw[iq]
  rw[e1,show bD (λi=>D l i*jP m u.1 (L.getD i [])) L.length=bD (λi=>bD (λk=>E u k*(D l i*((o9 rs).getD k []).getD i 0)) rs.length) L.length from aJ λi hi=>by
   rw[hE u i hi,hrl,<- iq];exact aJ λk _=>by rw[<- Rat.mul_assoc,<- Rat.mul_assoc,Rat.mul_comm (D l i)]]
  rw[pz];exact aJ λk _=>by rw[iq]
 refine UI e bB3 (K.filterMap λu=>if h:iV m.k u then some ⟨u,h⟩ else none) (λi=>if h:iV m.k (L.getD i []) then ⟨L.getD i [],h⟩ else ⟨[],λx hx=>by cases hx⟩) λr hr=>(h1 r hr).mono λb hb=>?_
 obtain⟨u,hu,rfl⟩:=kK hb;refine List.mem_map.2 ⟨⟨u,inK u hu⟩,List.mem_filterMap.2 ⟨u,hu,by rw[dif_pos (inK u hu)]⟩,?_⟩
 refine List.map_congr_left λi hi=>?_;have hi:=List.mem_range.1 hi;rw[dif_pos (inL _ (getD_mem hi []))]

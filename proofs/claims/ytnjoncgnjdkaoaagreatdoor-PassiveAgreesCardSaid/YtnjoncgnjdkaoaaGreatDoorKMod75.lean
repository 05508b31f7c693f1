/-
  M, chapters 23 and 24: the rank of a machine's series, as the code finds it.
-/
import Derived.Test.YtnjoncgnjdkaoaaGreatDoorKMod71
set_option linter.unusedVariables false
set_option linter.unusedSimpArgs false
namespace Go.AL
open Go Go.BigFrame
def iP (w:List Rat):Nat:=w.findIdx λx=>decide (x≠0)
def FO (t:List Rat)(f:Rat)(c:List Rat):List Rat:=(List.range t.length).map λi=>t.getD i 0+f*c.getD i 0
def ou:List bW->List Rat->List Rat->List Rat
 | [],_,t=>t
 | r::rs,w,t=>ou rs (jl w r) (FO t (jZ w r) r.c)
def bY (rs:List bW)(w:List Rat):List Rat:=ou rs w (List.replicate rs.length 0)
def JQ (rs:List bW)(w:List Rat):List Rat:=(bY rs w).map (λx=>-x)++[1]
def newR (rs:List bW)(w:List Rat):bW:=⟨bg rs w,JQ rs w,iP (bg rs w)⟩
def bM (rs:List bW)(w:List Rat):Bool:=decide (iP (bg rs w)<(bg rs w).length)
def wB (rs:List bW)(w:List Rat):List bW:=if bM rs w=true then rs++[newR rs w] else rs
section
variable {n:Nat}{rs:List bW}{w:List Rat}
theorem Fa (w:List Rat):iP w<=w.length:=List.findIdx_le_length
theorem yO (h:iP w<w.length):w.getD (iP w) 0≠0:=by
 have:=List.findIdx_getElem (w:=h);rw[ig,lu h,Option.getD_some];exact lq this
theorem ug {i:Nat}(h:i<iP w):w.getD i 0=0:=by
 have hl:=Nat.lt_of_lt_of_le h (Fa w);have:=List.not_of_lt_findIdx h;rw[ig,lu hl,Option.getD_some];simpa using this
theorem MV:iP w=w.length ↔ a95 w:=by
 constructor
 .intro h i hi;exact ug (by omega)
 .intro h;have:=Fa w;rcases Nat.lt_or_ge (iP w) w.length with h1|h1
  .exact absurd (h _ h1) (yO h1)
  .omega
theorem BM (e:JL n rs)(hw:w.length=n):bM rs w=false ↔ bU n (oG rs) (vf w):=by
 rw[<- aA5 e hw,<- MV];have:=Fa (bg rs w);unfold bM;rw[decide_eq_false_iff_not];omega
theorem Ua (t:List Rat)(f:Rat)(c:List Rat):(FO t f c).length=t.length:=by simp[FO]
theorem H6:∀ (rs:List bW) (w t:List Rat),(ou rs w t).length=t.length
 | [],_,_=>rfl
 | r::rs,w,t=>by rw[ou,H6 rs,Ua]
theorem uI (rs:List bW)(w:List Rat):(bY rs w).length=rs.length:=by rw[bY,H6,List.length_replicate]
theorem KI (rs:List bW)(w:List Rat):(JQ rs w).length=rs.length+1:=by rw[JQ,jG,dJ,uI];rfl
end
structure Join (m:dP) (V K Q:List (List Int)) (rs:List bW):Prop where
 Ou:Pq m V K Q
 ech:JL m.n rs
 len:rs.length=K.length
 rows:∀ r,r ∈ rs->bU m.n (Dx m K) (vf r.v)
 kept:∀ u,u ∈ K->bU m.n (oG rs) (vf (bP m u))
section
variable {m:dP}{V K Q:List (List Int)}{rs:List bW}{w:List Int}
theorem Join.start (m:dP):Join m [] [] [[]] [] :=
 ⟨Pq.start m,⟨λ_ h=>(by cases h),List.Pairwise.nil⟩,rfl,λ_ h=>(by cases h),λ_ h=>(by cases h)⟩
theorem Join.drop (ok:m.Ok)(j:Join m V K (w::Q) rs)(h:bM rs (bP m w)=false):Join m (V++[w]) K Q rs :=
 ⟨j.Ou.drop (((BM j.ech (wo ok w)).1 h).trans λb hb=>by
  obtain⟨r,hr,rfl⟩:=mM hb;exact j.rows r hr),j.ech,j.len,j.rows,j.kept⟩
theorem I7 (rs:List bW)(r:bW):oG (rs++[r])=oG rs++[r.v]:=by simp[oG]
theorem Join.keep (ok:m.Ok)(j:Join m V K (w::Q) rs)(h:bM rs (bP m w)=true):Join m (V++[w]) (K++[w]) (Q++cu m.k w) (rs++[newR rs (bP m w)]):=by
 have hl:=wo ok w;have hp:iP (bg rs (bP m w))<(bg rs (bP m w)).length:=lq h;have hs:=BI rs (bP m w);rw[hl] at hs;refine⟨j.Ou.keep,j.ech.grow hl _ (by rw[pz,hl] at hp;exact hp) (yO hp),?_,λr hr=>?_,λu hu=>?_⟩
 .rw[jG,jG,j.len];rfl
 .rcases ul hr with hr|hr
  .exact (j.rows r hr).mono λb hb=>by
    obtain⟨u,hu,rfl⟩:=mM hb;exact List.mem_map.2 ⟨u,List.mem_append.2 (.inl hu),rfl⟩
  .rw[lW hr];have h1:bU m.n (Dx m (K++[w])) (vf (bP m w)):=.mem (List.mem_map.2 ⟨w,List.mem_append.2 (.inr (List.mem_singleton.2 rfl)),rfl⟩);have h2:=(hs.trans λb hb=>by
    obtain⟨r,hr,rfl⟩:=mM hb;exact (j.rows r hr).mono λb hb=>by
     obtain⟨u,hu,rfl⟩:=mM hb;exact List.mem_map.2 ⟨u,List.mem_append.2 (.inl hu),rfl⟩:bU m.n (Dx m (K++[w])) _)
   refine (h1.plus (h2.smul (-1))).congr λi _=>?_;show (bg rs (bP m w)).getD i 0=(bP m w).getD i 0 + -1*((bP m w).getD i 0-(bg rs (bP m w)).getD i 0)
   rw[Rat.neg_mul,Rat.one_mul,Rat.neg_sub,Rat.sub_eq_add_neg,Rat.add_comm ((bP m w).getD i 0),Rat.add_assoc,Rat.neg_add_cancel,Rat.add_zero]
 .rw[I7];rcases ul hu with hu|hu
  .exact (j.kept u hu).mono λb hb=>List.mem_append.2 (.inl hb)
  .rw[lW hu];have h1:=hs.mono (C:=oG rs++[bg rs (bP m w)]) λb hb=>List.mem_append.2 (.inl hb);have h2:bU m.n (oG rs++[bg rs (bP m w)]) (vf (bg rs (bP m w))):=.mem (List.mem_append.2 (.inr (List.mem_singleton.2 rfl)));refine (h1.plus h2).congr λi _=>?_;show (bP m w).getD i 0=(bP m w).getD i 0-(bg rs (bP m w)).getD i 0+(bg rs (bP m w)).getD i 0
   rw[Rat.sub_add_cancel]
theorem Join.le (j:Join m V K Q rs):rs.length<=m.n:=j.ech.len
def qV (m:dP)(Q:List (List Int))(rs:List bW):Nat:=Q.length+(m.k+1)*(m.n-rs.length)
theorem Fb (ok:m.Ok)(j:Join m V K (w::Q) rs)(h:bM rs (bP m w)=true):qV m (Q++cu m.k w) (rs++[newR rs (bP m w)])<qV m (w::Q) rs:=by
 have h1:=(j.keep ok h).le;rw[jG,oU] at h1;unfold qV;rw[show (Q++cu m.k w).length=Q.length+(cu m.k w).length from jG,show (rs++[newR rs (bP m w)]).length=rs.length+1 by simp,show (w::Q).length=Q.length+1 from rfl,show (cu m.k w).length=m.k by simp[cu]]
 obtain⟨d,hd⟩:∃ d,m.n-rs.length=d+1:=⟨m.n-rs.length-1,by omega⟩
 rw[hd,show m.n-(rs.length+1)=d by omega,Nat.mul_succ]
 omega
theorem yP:qV m Q rs<qV m (w::Q) rs:=by
 unfold qV;rw[List.length_cons];omega
end
structure bH where
 f:Nat
 l:Nat
 t:Nat
 q:Rat
instance:Inhabited bH:=⟨⟨0,0,0,0⟩⟩
structure Au where
 sym:Nat
 st:Nat
 ini:List Rat
 fin:List Rat
 aS:List bH
instance:Inhabited Au:=⟨⟨0,0,[],[],[]⟩⟩
structure Au.Ok (a:Au):Prop where
 Gi:1<=a.sym
 ini:a.ini.length=a.st
 fin:a.fin.length=a.st
 arc:∀ x,x ∈ a.aS->x.f<a.st/\x.t<a.st/\1<=x.l/\x.l<=a.sym
def iU (l:List bH)(s i j:Nat):Rat:=jR (λx=>if x.f=i/\x.l=s+1/\x.t=j then x.q else 0) l
def aJ (l:List Au):Nat:=(l.map (·.st)).sum
def uJ:List Au->Nat->Nat->Nat->Rat
 | [],_,_,_=>0
 | a::r,s,i,j=>if i<a.st then (if j<a.st then iU a.aS s i j else 0) else (if j<a.st then 0 else uJ r s (i-a.st) (j-a.st))
def GK (n:Nat)(f:Nat->Nat->Rat):List (List Rat):=(List.range n).map λi=>(List.range n).map λj=>f i j
def Rj:List Au->List Rat
 | []=>[]
 | a::r=>a.fin++r.flatMap λb=>b.fin.map λx=>-x
def cZ (l:List Au):dP:=⟨aJ l,l.flatMap (·.ini),Rj l,(List.range (l.getD 0 default).sym).map λs=>GK (aJ l) (uJ l s)⟩
section
variable {a b:Au}{l:List Au}{s i j n:Nat}
theorem Rl {f:Nat->Nat->Rat}(hi:i<n)(hj:j<n):((GK n f).getD i []).getD j 0=f i j:=by
 unfold GK;rw[aT _ _ hi,aT _ _ hj]
theorem Fe:(cZ l).k=(l.getD 0 default).sym:=by simp[dP.k,cZ]
theorem I8 (hs:s<(l.getD 0 default).sym)(hi:i<aJ l)(hj:j<aJ l):oq (cZ l) s i j=uJ l s i j:=by
 unfold oq cZ;rw[aT _ _ hs,Rl hi hj]
theorem jm:aJ [a]=a.st:=by simp[aJ]
theorem Ub (ha:a.Ok):(cZ [a]).Ok:=⟨by simp[cZ,aJ,ha.ini],by simp[cZ,Rj,aJ,ha.fin]⟩
theorem Uc (f:Nat->Rat)(n:Nat):∀ m,aX f (n+m)=aX f n+aX (λi=>f (n+i)) m
 | 0=>by rw[Nat.add_zero,aX,Rat.add_zero]
 | m+1=>by rw[<- Nat.add_assoc,aX,Uc f n m,aX,Rat.add_assoc]
def iD (a:Au)(w:List Int):Rat:=wV (cZ [a]) w
end
section
variable {n:Nat}
theorem Ud {α:Type}(p:α->Prop):∀ l:List α,(∀ x,x ∈ l->p x) \/ ∃ a x z,l=a++x::z/\¬ p x/\∀ y,y ∈ z->p y
 | []=>.inl λ_ h=>by cases h
 | x :: r => by
  rcases Ud p r with h|⟨a,y,z,e,h1,h2⟩
  .by_cases hx:p x
   .exact .inl λy hy=>(List.mem_cons.1 hy).elim (λe=>e ▸ hx) (h y)
   .exact .inr ⟨[],x,r,rfl,hx,h⟩
  .exact .inr ⟨x::a,y,z,by rw[e];rfl,h1,h2⟩
def aA9 (n:Nat)(f:bW->Rat)(r x:bW):bW:=⟨(List.range n).map λi=>x.v.getD i 0-f x*r.v.getD i 0,x.c,x.p⟩
theorem MW {f:bW->Rat}{r x:bW}{i:Nat}(hi:i<n):(aA9 n f r x).v.getD i 0=x.v.getD i 0-f x*r.v.getD i 0:=aT _ _ hi
theorem Es:∀ (C:List (List Rat)) (rs:List bW),JL n rs->(∀ r,r ∈ rs->bU n C (vf r.v))->rs.length<=C.length
 | [], rs, e, h => by
  cases rs with
  | nil=>exact Nat.le_refl _
  | cons r rs =>
   obtain⟨p1,p2⟩:=e.piv r uZ;cases h r uZ with
   | zero h=>exact absurd (h _ p1) p2
   | add _ hb=>cases hb
 | c :: C, rs, e, h => by
  rcases Ud (λr:bW=>bU n C (vf r.v)) rs with hall|⟨A,r,Z,rfl,hr,hZ⟩
  .exact Nat.le_succ_of_le (Es C rs e hall)
  .obtain⟨a,w,hw,ha⟩:=(h r (by simp)).split
   have ha0:a≠0:=λe0=>hr (hw.congr λi hi=>by rw[ha i hi,e0,Rat.zero_mul,Rat.zero_add])
   have hx:∀ x:bW,∃ f:Rat,x ∈ A->bU n C λi=>x.v.getD i 0-f*r.v.getD i 0:=λx=>by
    by_cases hxA:x ∈ A
    .obtain⟨b,u,hu,hb⟩:=(h x (by simp[hxA])).split
     refine⟨b / a,λ_=>(hu.plus (hw.smul (-(b / a)))).congr λi hi=>?_⟩;show x.v.getD i 0-b / a*r.v.getD i 0=u i + -(b / a)*w i
     rw[show x.v.getD i 0=b*c.getD i 0+u i from hb i hi,show r.v.getD i 0=a*c.getD i 0+w i from ha i hi,Rat.mul_add,<- Rat.mul_assoc,Rat.div_mul_cancel ha0,Rat.sub_eq_add_neg,Rat.neg_add,Rat.neg_mul,Rat.add_comm (b*_),Rat.add_assoc,<- Rat.add_assoc (b*_),Rat.add_neg_cancel,Rat.zero_add]
    .exact⟨0,λk=>absurd k hxA⟩
   obtain⟨f,hf⟩:=Classical.axiomOfChoice hx;have hz:=List.pairwise_append.1 e.zero;have hz2:=List.pairwise_cons.1 hz.2.1;have hlen:=Es C (A.map (aA9 n f r)++Z) ⟨λy hy=>?_,?_⟩ λy hy=>?_
   .rw[jG,dJ] at hlen;rw[jG,List.length_cons,List.length_cons];omega
   .rcases ul hy with hy|hy
    .obtain⟨x,hxA,rfl⟩:=mM hy;obtain⟨p1,p2⟩:=e.piv x (by simp[hxA])
     refine⟨p1,?_⟩;rw[show (aA9 n f r x).p=x.p from rfl,MW p1,hz.2.2 x hxA r uZ,Rat.mul_zero,Rat.sub_eq_add_neg,Rat.neg_zero,Rat.add_zero]
     exact p2
    .exact e.piv y (by simp[hy])
   .refine List.pairwise_append.2 ⟨List.pairwise_map.2 (hz.1.imp_of_mem λ{x y} hxA hyA k=>?_),hz2.2,λx hxm y hy=>?_⟩
    .have p1:=(e.piv x (by simp[hxA])).1
     rw[show (aA9 n f r x).p=x.p from rfl,MW p1,k,hz.2.2 x hxA r uZ,Rat.mul_zero,Rat.sub_self]
    .obtain⟨x,hxA,rfl⟩:=mM hxm;exact hz.2.2 x hxA y (List.mem_cons_of_mem _ hy)
   .rcases ul hy with hy|hy
    .obtain⟨x,hxA,rfl⟩:=mM hy;exact (hf x hxA).congr λi hi=>MW hi
    .exact hZ y hy
end
def MX {α β:Type}(H:α->β->Rat)(r:Nat):Prop:=∃ (A:α->Nat->Rat) (B:Nat->β->Rat),∀ a b,H a b=aX (λk=>A a k*B k b) r
section
variable {α β:Type}{H G:α->β->Rat}{r s:Nat}
theorem MX.turn (h:MX H r):MX (λb a=>H a b) r :=
 have ⟨A,B,e⟩:=h
 ⟨λb k=>B k b,λk a=>A a k,λb a=>by show H a b=_;rw[e];exact aN λk _=>Rat.mul_comm ..⟩
theorem MX.plus (h:MX H r)(k:MX G s):MX (λa b=>H a b+G a b) (r+s):=by
 obtain⟨A,B,e⟩:=h;obtain⟨A2,B2,e2⟩:=k;refine⟨λa k=>if k<r then A a k else A2 a (k-r),λk b=>if k<r then B k b else B2 (k-r) b,λa b=>?_⟩
 show H a b+G a b=_
 rw[Uc,e,e2];congr 1
 .exact aN λk hk=>by simp only[if_pos hk]
 .exact aN λk _=>by simp only[if_neg (show ¬ r+k<r by omega),Nat.add_sub_cancel_left]
theorem MX.smul (h:MX H r)(c:Rat):MX (λa b=>c*H a b) r :=
 have ⟨A,B,e⟩:=h
 ⟨λa k=>c*A a k,B,λa b=>by show c*H a b=_;rw[e,<- jo];exact aN λk _=>(Rat.mul_assoc ..).symm⟩
theorem MX.map {α2 β2:Type}(h:MX H r)(f:α2->α)(g:β2->β):MX (λa b=>H (f a) (g b)) r :=
 have ⟨A,B,e⟩:=h
 ⟨λa k=>A (f a) k,λk b=>B k (g b),λa b=>e _ _⟩
theorem MX.zero:MX H 0 ↔ ∀ a b,H a b=0 :=
 ⟨λ⟨_,_,e⟩ a b=>by rw[e];rfl,λh=>⟨λ_ _=>0,λ_ _=>0,λa b=>by rw[h];rfl⟩⟩
structure xZ (H:α->β->Rat) (r:Nat):Prop where
 fac:MX H r
 least:∀ s,MX H s->r<=s
theorem xZ.unique (h:xZ H r)(k:xZ H s):r=s:=Nat.le_antisymm (h.least _ k.fac) (k.least _ h.fac)
theorem xZ.turn (h:xZ H r):xZ (λb a=>H a b) r:=⟨h.fac.turn,λs k=>h.least s k.turn⟩
theorem Rn {n:Nat}{rs:List bW}(e:JL n rs)(fac:MX H rs.length)(V:List α)(cols:Nat->β)(hv:∀ r,r ∈ rs->bU n (V.map λa=>(List.range n).map λj=>H a (cols j)) (vf r.v)):xZ H rs.length :=
 ⟨fac,λs ⟨A,B,hs⟩=>by
  have h:=Es (n:=n) ((List.range s).map λk=>(List.range n).map λj=>B k (cols j)) rs e λr hr=>(hv r hr).trans λb hb=>by
   obtain⟨a,_,rfl⟩:=mM hb;have key:∀ t,t<=s->bU n ((List.range s).map λk=>(List.range n).map λj=>B k (cols j)) λj=>aX (λk=>A a k*B k (cols j)) t:=by
    intro t
    induction t with
    | zero=>intro _;exact .zero λ_ _=>rfl
    | succ t ih =>
     intro ht;refine .add (A a t) (List.mem_map.2 ⟨t,List.mem_range.2 (by omega),rfl⟩) (ih (by omega)) λj hj=>?_
     rw[aX,aT _ _ hj]
   exact (key s (Nat.le_refl s)).congr λj hj=>by
    show ((List.range n).map λj=>H a (cols j)).getD j 0=_
    rw[aT _ _ hj,hs]
  rw[dJ,List.length_range] at h;exact h⟩
end
abbrev Wd (k:Nat):={ w:List Int // kC k w }
def dA (m:dP):dP:=⟨m.n,m.fin,m.ini,m.qL.map λM=>GK m.n λi j=>(M.getD j []).getD i 0⟩
def lZ (m:dP)(u l:List Int):Rat:=vZ m.n (vf (bP m u)) (vf (bP (dA m) l))
section
variable {m:dP}{u l:List Int}{n:Nat}{B:List (List Rat)}
theorem tu:(dA m).k=m.k:=by simp[dP.k,dA]
theorem Ro (h:m.Ok):(dA m).Ok:=⟨h.fin,h.ini⟩
theorem Ue {s i j:Nat}(hs:s<m.k)(hi:i<m.n)(hj:j<m.n):oq (dA m) s i j=oq m s j i:=by
 unfold oq dA;have e:(m.qL.map λM=>GK m.n λi j=>(M.getD j []).getD i 0).getD s []=GK m.n λi j=>((m.qL.getD s []).getD j []).getD i 0:=by
  rw[ig,List.getElem?_map,lu hs,ig,lu hs];rfl
 rw[e,Rl hi hj]
theorem Uf {v x:List Rat}{s:Nat}(hs:s<m.k):vZ m.n (vf (stepM m v s)) (vf x)=vZ m.n (vf v) (vf (stepM (dA m) x s)):=by
 unfold vZ;rw[show aX (λi=>vf (stepM m v s) i*vf x i) m.n=aX (λj=>aX (λi=>v.getD i 0*oq m s i j*x.getD j 0) m.n) m.n from aN λj hj=>by
  show (stepM m v s).getD j 0*_=_
  rw[BK hj,<- uU]]
 rw[sG];refine aN λi hi=>?_;show _=v.getD i 0*(stepM (dA m) x s).getD i 0
 rw[BK (m:=dA m) hi,<- jo];refine aN λj hj=>?_;rw[Ue hs hj hi,Rat.mul_assoc,Rat.mul_comm (oq m s i j)]
theorem Ff:∀ (l u:List Int),kC m.k l->lZ m u l=wV m (u++l.reverse):=by
 intro l
 induction hn:l.length generalizing l with
 | zero =>
  intro u _;rw[IK hn,List.reverse_nil,List.append_nil];rfl
 | succ n ih =>
  intro u hl;have hne:l≠[]:=λe=>by subst e;cases hn
  obtain⟨y,x,rfl⟩:∃ y x,l=y++[x]:=⟨l.dropLast,l.getLast hne,(List.dropLast_concat_getLast hne).symm⟩;have hx:=hl x (by simp)
  rw[List.reverse_append,List.reverse_singleton,List.singleton_append,show u++x::y.reverse=(u++[x])++y.reverse by simp,<- ih y (by rw[jG,oU] at hn;omega) (u++[x]) λz hz=>hl z (List.mem_append.2 (.inl hz))]
  unfold lZ;rw[lm,lm,<- Uf (by omega)]
theorem bU.aQ1 {v:Nat->Rat}(h:bU n B v):∃ c:Nat->Rat,∀ i,i<n->v i=aX (λk=>c k*(B.getD k []).getD i 0) B.length:=by
 induction h with
 | zero h=>exact⟨λ_=>0,λi hi=>by rw[h i hi];exact (mJ λk _=>Rat.zero_mul _).symm⟩
 | @add u u' b a hb _ h ih =>
  obtain⟨c,hc⟩:=ih;obtain⟨p,hp,e⟩:=List.mem_iff_getElem.1 hb;refine⟨λk=>c k+if p=k then a else 0,λi hi=>?_⟩
  rw[h i hi,hc i hi,show aX (λk=>(c k+if p=k then a else 0)*(B.getD k []).getD i 0) B.length=aX (λk=>c k*(B.getD k []).getD i 0) B.length+aX (λk=>if p=k then a*(B.getD k []).getD i 0 else 0) B.length by
   rw[<- rG];refine aN λk _=>?_;rw[Rat.add_mul];congr 1
   split
   .rfl
   .rw[Rat.zero_mul]]
  rw[wU (v:=λk=>a*(B.getD k []).getD i 0) hp];rw[show B.getD p []=b by rw[ig,lu hp,Option.getD_some,e]]
def oH (m:dP)(L:List (List Int))(u:List Int):List Rat:=(List.range L.length).map λj=>lZ m u (L.getD j [])
theorem MZ (m:dP)(L:List (List Int)):ah9 m.n L.length λv j=>vZ m.n v (vf (bP (dA m) (L.getD j []))) :=
 ⟨λu v h j _=>(Ep m.n _).loc u v h 0 (by decide),λu v c j _=>(Ep m.n (vf (bP (dA m) (L.getD j [])))).add u v c 0 (by decide),λj _=>(Ep m.n (vf (bP (dA m) (L.getD j [])))).zero 0 (by decide)⟩
theorem Na {K L V V2:List (List Int)}{rs r1 r2:List bW}(ok:m.Ok)(j:Join m V K [] r1)(j2:Join (dA m) V2 L [] r2)(e:JL L.length rs)(h1:∀ r,r ∈ rs->bU L.length (K.map (oH m L)) (vf r.v))(h2:∀ u,u ∈ K->bU L.length (oG rs) (vf (oH m L u))) :
  xZ (λ(u l:Wd m.k)=>lZ m u.1 l.1) rs.length:=by
 classical
 have inK:∀ u,u ∈ K->kC m.k u:=λu hu=>j.Ou.zZ u (.inl (j.Ou.sub u hu));have inL:∀ u,u ∈ L->kC m.k u:=λu hu=>by have:=j2.Ou.zZ u (.inl (j2.Ou.sub u hu));rwa [tu] at this
 have hv:∀ u,kC m.k u->bU L.length (oG rs) λi=>lZ m u (L.getD i []):=λu hu=>by
  have hs:=(j.Ou.reach u hu λq hq=>by cases hq).mono (C:=Dx m K) λb hb=>by
   obtain⟨z,hz,rfl⟩:=mM hb;exact List.mem_map.2 ⟨z,(fD.1 hz).1,rfl⟩
  refine hs.map (MZ m L) λb hb=>?_;obtain⟨z,hz,rfl⟩:=mM hb;exact (h2 z hz).congr λi hi=>by
   show _=(oH m L z).getD i 0
   unfold oH;rw[aT _ _ hi];rfl
 have hl:∀ l,kC m.k l->bU m.n (Dx (dA m) L) (vf (bP (dA m) l)):=λl hl =>
  (j2.Ou.reach l (by rw[tu];exact hl) λq hq=>by cases hq).mono λb hb=>by
   obtain⟨z,hz,rfl⟩:=mM hb;exact List.mem_map.2 ⟨z,(fD.1 hz).1,rfl⟩
 obtain⟨E,hE⟩:=Classical.axiomOfChoice (r:=λ(u:Wd m.k) (c:Nat->Rat)=>∀ i,i<L.length->lZ m u.1 (L.getD i [])=aX (λk=>c k*((oG rs).getD k []).getD i 0) (oG rs).length) λu=>(hv u.1 u.2).aQ1;obtain⟨D,hD⟩:=Classical.axiomOfChoice (r:=λ(l:Wd m.k) (c:Nat->Rat)=>∀ i,i<m.n->vf (bP (dA m) l.1) i=aX (λk=>c k*((Dx (dA m) L).getD k []).getD i 0) (Dx (dA m) L).length) λl=>(hl l.1 l.2).aQ1;have hrl:(oG rs).length=rs.length:=by simp[oG]
 have hll:(Dx (dA m) L).length=L.length:=by simp[Dx]
 have bn1:MX (λ(u l:Wd m.k)=>lZ m u.1 l.1) rs.length:=by
  refine⟨E,λk l=>aX (λi=>D l i*((oG rs).getD k []).getD i 0) L.length,λu l=>?_⟩;show lZ m u.1 l.1=_
  have e1:lZ m u.1 l.1=aX (λi=>D l i*lZ m u.1 (L.getD i [])) L.length:=by
   unfold lZ vZ;rw[show aX (λi=>vf (bP m u.1) i*vf (bP (dA m) l.1) i) m.n=aX (λi=>aX (λk=>D l k*(vf (bP m u.1) i*vf (bP (dA m) (L.getD k [])) i)) L.length) m.n from aN λi hi=>by
    rw[hD l i hi,hll,<- jo];refine aN λk hk=>?_;rw[show (Dx (dA m) L).getD k []=bP (dA m) (L.getD k []) by
     unfold Dx;rw[ig,List.getElem?_map,lu hk,ig,lu hk];rfl]
    rw[<- Rat.mul_assoc,<- Rat.mul_assoc,Rat.mul_comm (vf (bP m u.1) i)]]
   rw[sG];exact aN λk _=>by rw[jo]
  rw[e1,show aX (λi=>D l i*lZ m u.1 (L.getD i [])) L.length=aX (λi=>aX (λk=>E u k*(D l i*((oG rs).getD k []).getD i 0)) rs.length) L.length from aN λi hi=>by
   rw[hE u i hi,hrl,<- jo];exact aN λk _=>by rw[<- Rat.mul_assoc,<- Rat.mul_assoc,Rat.mul_comm (D l i)]]
  rw[sG];exact aN λk _=>by rw[jo]
 refine Rn e bn1 (K.filterMap λu=>if h:kC m.k u then some ⟨u,h⟩ else none) (λi=>if h:kC m.k (L.getD i []) then ⟨L.getD i [],h⟩ else ⟨[],λx hx=>by cases hx⟩) λr hr=>(h1 r hr).mono λb hb=>?_
 obtain⟨u,hu,rfl⟩:=mM hb;refine List.mem_map.2 ⟨⟨u,inK u hu⟩,List.mem_filterMap.2 ⟨u,hu,by rw[dif_pos (inK u hu)]⟩,?_⟩
 refine List.map_congr_left λi hi=>?_;have hi:=List.mem_range.1 hi;rw[dif_pos (inL _ (getD_mem hi []))]

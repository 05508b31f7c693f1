/-
  M, chapters 23 and 24: the rank of a machine's series, as the code finds it.
-/
import Derived.Test.YtnjoncgnjdkaoaaGreatDoorKMod71
set_option linter.unusedVariables false
set_option linter.unusedSimpArgs false
namespace Go.AL
open Go Go.BigFrame
def dV (w:List Rat):Nat:=w.findIdx λx=>decide (x≠0)
def F9 (t:List Rat)(f:Rat)(c:List Rat):List Rat:=(List.range t.length).map λi=>t.getD i 0+f*c.getD i 0
def tX:List bJ->List Rat->List Rat->List Rat
 | [],_,t=>t
 | r::rs,w,t=>tX rs (iQ w r) (F9 t (ou w r) r.c)
def bZ (rs:List bJ)(w:List Rat):List Rat:=tX rs w (List.replicate rs.length 0)
def TQ (rs:List bJ)(w:List Rat):List Rat:=(bZ rs w).map (λx=>-x)++[1]
def newR (rs:List bJ)(w:List Rat):bJ:=⟨aQ rs w,TQ rs w,dV (aQ rs w)⟩
def bg (rs:List bJ)(w:List Rat):Bool:=decide (dV (aQ rs w)<(aQ rs w).length)
def vw (rs:List bJ)(w:List Rat):List bJ:=if bg rs w=true then rs++[newR rs w] else rs
section
variable {n:Nat}{rs:List bJ}{w:List Rat}
theorem EZ (w:List Rat):dV w<=w.length:=List.findIdx_le_length
theorem ul (h:dV w<w.length):w.getD (dV w) 0≠0:=by
 have:=List.findIdx_getElem (w:=h);rw[gI,kL h,Option.getD_some];exact kK this
theorem sH {i:Nat}(h:i<dV w):w.getD i 0=0:=by
 have hl:=Nat.lt_of_lt_of_le h (EZ w);have:=List.not_of_lt_findIdx h;rw[gI,kL hl,Option.getD_some];simpa using this
theorem V7:dV w=w.length ↔ aW1 w:=by
 constructor
 .intro h i hi;exact sH (by omega)
 .intro h;have:=EZ w;rcases Nat.lt_or_ge (dV w) w.length with h1|h1
  .exact absurd (h _ h1) (ul h1)
  .omega
theorem Bv (e:Ip n rs)(hw:w.length=n):bg rs w=false ↔ bK n (lu rs) (vf w):=by
 rw[<- ay4 e hw,<- V7];have:=EZ (aQ rs w);unfold bg;rw[decide_eq_false_iff_not];omega
theorem TR (t:List Rat)(f:Rat)(c:List Rat):(F9 t f c).length=t.length:=by simp[F9]
theorem MC:∀ (rs:List bJ) (w t:List Rat),(tX rs w t).length=t.length
 | [],_,_=>rfl
 | r::rs,w,t=>by rw[tX,MC rs,TR]
theorem vX (rs:List bJ)(w:List Rat):(bZ rs w).length=rs.length:=by rw[bZ,MC,List.length_replicate]
theorem Q5 (rs:List bJ)(w:List Rat):(TQ rs w).length=rs.length+1:=by rw[TQ,iU,dD,vX];rfl
end
structure Join (m:dZ) (V K Q:List (List Int)) (rs:List bJ):Prop where
 MF:O9 m V K Q
 ech:Ip m.n rs
 len:rs.length=K.length
 rows:∀ r,r ∈ rs->bK m.n (vV m K) (vf r.v)
 kept:∀ u,u ∈ K->bK m.n (lu rs) (vf (bQ m u))
section
variable {m:dZ}{V K Q:List (List Int)}{rs:List bJ}{w:List Int}
theorem Join.start (m:dZ):Join m [] [] [[]] [] :=
 ⟨O9.start m,⟨λ_ h=>(by cases h),List.Pairwise.nil⟩,rfl,λ_ h=>(by cases h),λ_ h=>(by cases h)⟩
theorem Join.drop (ok:m.Ok)(j:Join m V K (w::Q) rs)(h:bg rs (bQ m w)=false):Join m (V++[w]) K Q rs :=
 ⟨j.MF.drop (((Bv j.ech (xw ok w)).1 h).trans λb hb=>by
  obtain⟨r,hr,rfl⟩:=jY hb;exact j.rows r hr),j.ech,j.len,j.rows,j.kept⟩
theorem IJ (rs:List bJ)(r:bJ):lu (rs++[r])=lu rs++[r.v]:=by simp[lu]
theorem Join.keep (ok:m.Ok)(j:Join m V K (w::Q) rs)(h:bg rs (bQ m w)=true):Join m (V++[w]) (K++[w]) (Q++dh m.k w) (rs++[newR rs (bQ m w)]):=by
 have hl:=xw ok w;have hp:dV (aQ rs (bQ m w))<(aQ rs (bQ m w)).length:=kK h;have hs:=Bh rs (bQ m w);rw[hl] at hs;refine⟨j.MF.keep,j.ech.grow hl _ (by rw[kE,hl] at hp;exact hp) (ul hp),?_,λr hr=>?_,λu hu=>?_⟩
 .rw[iU,iU,j.len];rfl
 .rcases rD hr with hr|hr
  .exact (j.rows r hr).mono λb hb=>by
    obtain⟨u,hu,rfl⟩:=jY hb;exact List.mem_map.2 ⟨u,List.mem_append.2 (.inl hu),rfl⟩
  .rw[kJ hr];have h1:bK m.n (vV m (K++[w])) (vf (bQ m w)):=.mem (List.mem_map.2 ⟨w,List.mem_append.2 (.inr (List.mem_singleton.2 rfl)),rfl⟩);have h2:=(hs.trans λb hb=>by
    obtain⟨r,hr,rfl⟩:=jY hb;exact (j.rows r hr).mono λb hb=>by
     obtain⟨u,hu,rfl⟩:=jY hb;exact List.mem_map.2 ⟨u,List.mem_append.2 (.inl hu),rfl⟩:bK m.n (vV m (K++[w])) _)
   refine (h1.plus (h2.smul (-1))).congr λi _=>?_;show (aQ rs (bQ m w)).getD i 0=(bQ m w).getD i 0 + -1*((bQ m w).getD i 0-(aQ rs (bQ m w)).getD i 0)
   rw[Rat.neg_mul,Rat.one_mul,Rat.neg_sub,Rat.sub_eq_add_neg,Rat.add_comm ((bQ m w).getD i 0),Rat.add_assoc,Rat.neg_add_cancel,Rat.add_zero]
 .rw[IJ];rcases rD hu with hu|hu
  .exact (j.kept u hu).mono λb hb=>List.mem_append.2 (.inl hb)
  .rw[kJ hu];have h1:=hs.mono (C:=lu rs++[aQ rs (bQ m w)]) λb hb=>List.mem_append.2 (.inl hb);have h2:bK m.n (lu rs++[aQ rs (bQ m w)]) (vf (aQ rs (bQ m w))):=.mem (List.mem_append.2 (.inr (List.mem_singleton.2 rfl)));refine (h1.plus h2).congr λi _=>?_;show (bQ m w).getD i 0=(bQ m w).getD i 0-(aQ rs (bQ m w)).getD i 0+(aQ rs (bQ m w)).getD i 0
   rw[Rat.sub_add_cancel]
theorem Join.le (j:Join m V K Q rs):rs.length<=m.n:=j.ech.len
def kG (m:dZ)(Q:List (List Int))(rs:List bJ):Nat:=Q.length+(m.k+1)*(m.n-rs.length)
theorem E5 (ok:m.Ok)(j:Join m V K (w::Q) rs)(h:bg rs (bQ m w)=true):kG m (Q++dh m.k w) (rs++[newR rs (bQ m w)])<kG m (w::Q) rs:=by
 have h1:=(j.keep ok h).le;rw[iU,jL] at h1;unfold kG;rw[show (Q++dh m.k w).length=Q.length+(dh m.k w).length from iU,show (rs++[newR rs (bQ m w)]).length=rs.length+1 by simp,show (w::Q).length=Q.length+1 from rfl,show (dh m.k w).length=m.k by simp[dh]]
 obtain⟨d,hd⟩:∃ d,m.n-rs.length=d+1:=⟨m.n-rs.length-1,by omega⟩
 rw[hd,show m.n-(rs.length+1)=d by omega,Nat.mul_succ]
 omega
theorem yA:kG m Q rs<kG m (w::Q) rs:=by
 unfold kG;rw[List.length_cons];omega
end
structure bD where
 f:Nat
 l:Nat
 t:Nat
 q:Rat
instance:Inhabited bD:=⟨⟨0,0,0,0⟩⟩
structure Au where
 sym:Nat
 st:Nat
 ini:List Rat
 fin:List Rat
 aP:List bD
instance:Inhabited Au:=⟨⟨0,0,[],[],[]⟩⟩
structure Au.Ok (a:Au):Prop where
 GY:1<=a.sym
 ini:a.ini.length=a.st
 fin:a.fin.length=a.st
 arc:∀ x,x ∈ a.aP->x.f<a.st/\x.t<a.st/\1<=x.l/\x.l<=a.sym
def jd (l:List bD)(s i j:Nat):Rat:=jD (λx=>if x.f=i/\x.l=s+1/\x.t=j then x.q else 0) l
def um (l:List Au):Nat:=(l.map (·.st)).sum
def AP:List Au->Nat->Nat->Nat->Rat
 | [],_,_,_=>0
 | a::r,s,i,j=>if i<a.st then (if j<a.st then jd a.aP s i j else 0) else (if j<a.st then 0 else AP r s (i-a.st) (j-a.st))
def Gf (n:Nat)(f:Nat->Nat->Rat):List (List Rat):=(List.range n).map λi=>(List.range n).map λj=>f i j
def ay8:List Au->List Rat
 | []=>[]
 | a::r=>a.fin++r.flatMap λb=>b.fin.map λx=>-x
def aY (l:List Au):dZ:=⟨um l,l.flatMap (·.ini),ay8 l,(List.range (l.getD 0 default).sym).map λs=>Gf (um l) (AP l s)⟩
section
variable {a b:Au}{l:List Au}{s i j n:Nat}
theorem J9 {f:Nat->Nat->Rat}(hi:i<n)(hj:j<n):((Gf n f).getD i []).getD j 0=f i j:=by
 unfold Gf;rw[aK _ _ hi,aK _ _ hj]
theorem E8:(aY l).k=(l.getD 0 default).sym:=by simp[dZ.k,aY]
theorem IK (hs:s<(l.getD 0 default).sym)(hi:i<um l)(hj:j<um l):sG (aY l) s i j=AP l s i j:=by
 unfold sG aY;rw[aK _ _ hs,J9 hi hj]
theorem gG:um [a]=a.st:=by simp[um]
theorem MG (ha:a.Ok):(aY [a]).Ok:=⟨by simp[aY,um,ha.ini],by simp[aY,ay8,um,ha.fin]⟩
theorem TS (f:Nat->Rat)(n:Nat):∀ m,aW f (n+m)=aW f n+aW (λi=>f (n+i)) m
 | 0=>by rw[Nat.add_zero,aW,Rat.add_zero]
 | m+1=>by rw[<- Nat.add_assoc,aW,TS f n m,aW,Rat.add_assoc]
def jm (a:Au)(w:List Int):Rat:=wW (aY [a]) w
end
section
variable {n:Nat}
theorem TT {α:Type}(p:α->Prop):∀ l:List α,(∀ x,x ∈ l->p x) \/ ∃ a x z,l=a++x::z/\¬ p x/\∀ y,y ∈ z->p y
 | []=>.inl λ_ h=>by cases h
 | x :: r => by
  rcases TT p r with h|⟨a,y,z,e,h1,h2⟩
  .by_cases hx:p x
   .exact .inl λy hy=>(List.mem_cons.1 hy).elim (λe=>e ▸ hx) (h y)
   .exact .inr ⟨[],x,r,rfl,hx,h⟩
  .exact .inr ⟨x::a,y,z,by rw[e];rfl,h1,h2⟩
def ay9 (n:Nat)(f:bJ->Rat)(r x:bJ):bJ:=⟨(List.range n).map λi=>x.v.getD i 0-f x*r.v.getD i 0,x.c,x.p⟩
theorem MH {f:bJ->Rat}{r x:bJ}{i:Nat}(hi:i<n):(ay9 n f r x).v.getD i 0=x.v.getD i 0-f x*r.v.getD i 0:=aK _ _ hi
theorem y7:∀ (C:List (List Rat)) (rs:List bJ),Ip n rs->(∀ r,r ∈ rs->bK n C (vf r.v))->rs.length<=C.length
 | [], rs, e, h => by
  cases rs with
  | nil=>exact Nat.le_refl _
  | cons r rs =>
   obtain⟨p1,p2⟩:=e.piv r vC;cases h r vC with
   | zero h=>exact absurd (h _ p1) p2
   | add _ hb=>cases hb
 | c :: C, rs, e, h => by
  rcases TT (λr:bJ=>bK n C (vf r.v)) rs with hall|⟨A,r,Z,rfl,hr,hZ⟩
  .exact Nat.le_succ_of_le (y7 C rs e hall)
  .obtain⟨a,w,hw,ha⟩:=(h r (by simp)).split
   have ha0:a≠0:=λe0=>hr (hw.congr λi hi=>by rw[ha i hi,e0,Rat.zero_mul,Rat.zero_add])
   have hx:∀ x:bJ,∃ f:Rat,x ∈ A->bK n C λi=>x.v.getD i 0-f*r.v.getD i 0:=λx=>by
    by_cases hxA:x ∈ A
    .obtain⟨b,u,hu,hb⟩:=(h x (by simp[hxA])).split
     refine⟨b / a,λ_=>(hu.plus (hw.smul (-(b / a)))).congr λi hi=>?_⟩;show x.v.getD i 0-b / a*r.v.getD i 0=u i + -(b / a)*w i
     rw[show x.v.getD i 0=b*c.getD i 0+u i from hb i hi,show r.v.getD i 0=a*c.getD i 0+w i from ha i hi,Rat.mul_add,<- Rat.mul_assoc,Rat.div_mul_cancel ha0,Rat.sub_eq_add_neg,Rat.neg_add,Rat.neg_mul,Rat.add_comm (b*_),Rat.add_assoc,<- Rat.add_assoc (b*_),Rat.add_neg_cancel,Rat.zero_add]
    .exact⟨0,λk=>absurd k hxA⟩
   obtain⟨f,hf⟩:=Classical.axiomOfChoice hx;have hz:=List.pairwise_append.1 e.zero;have hz2:=List.pairwise_cons.1 hz.2.1;have hlen:=y7 C (A.map (ay9 n f r)++Z) ⟨λy hy=>?_,?_⟩ λy hy=>?_
   .rw[iU,dD] at hlen;rw[iU,List.length_cons,List.length_cons];omega
   .rcases rD hy with hy|hy
    .obtain⟨x,hxA,rfl⟩:=jY hy;obtain⟨p1,p2⟩:=e.piv x (by simp[hxA])
     refine⟨p1,?_⟩;rw[show (ay9 n f r x).p=x.p from rfl,MH p1,hz.2.2 x hxA r vC,Rat.mul_zero,Rat.sub_eq_add_neg,Rat.neg_zero,Rat.add_zero]
     exact p2
    .exact e.piv y (by simp[hy])
   .refine List.pairwise_append.2 ⟨List.pairwise_map.2 (hz.1.imp_of_mem λ{x y} hxA hyA k=>?_),hz2.2,λx hxm y hy=>?_⟩
    .have p1:=(e.piv x (by simp[hxA])).1
     rw[show (ay9 n f r x).p=x.p from rfl,MH p1,k,hz.2.2 x hxA r vC,Rat.mul_zero,Rat.sub_self]
    .obtain⟨x,hxA,rfl⟩:=jY hxm;exact hz.2.2 x hxA y (List.mem_cons_of_mem _ hy)
   .rcases rD hy with hy|hy
    .obtain⟨x,hxA,rfl⟩:=jY hy;exact (hf x hxA).congr λi hi=>MH hi
    .exact hZ y hy
end
def IL {α β:Type}(H:α->β->Rat)(r:Nat):Prop:=∃ (A:α->Nat->Rat) (B:Nat->β->Rat),∀ a b,H a b=aW (λk=>A a k*B k b) r
section
variable {α β:Type}{H G:α->β->Rat}{r s:Nat}
theorem IL.turn (h:IL H r):IL (λb a=>H a b) r :=
 have ⟨A,B,e⟩:=h
 ⟨λb k=>B k b,λk a=>A a k,λb a=>by show H a b=_;rw[e];exact aJ λk _=>Rat.mul_comm ..⟩
theorem IL.plus (h:IL H r)(k:IL G s):IL (λa b=>H a b+G a b) (r+s):=by
 obtain⟨A,B,e⟩:=h;obtain⟨A2,B2,e2⟩:=k;refine⟨λa k=>if k<r then A a k else A2 a (k-r),λk b=>if k<r then B k b else B2 (k-r) b,λa b=>?_⟩
 show H a b+G a b=_
 rw[TS,e,e2];congr 1
 .exact aJ λk hk=>by simp only[if_pos hk]
 .exact aJ λk _=>by simp only[if_neg (show ¬ r+k<r by omega),Nat.add_sub_cancel_left]
theorem IL.smul (h:IL H r)(c:Rat):IL (λa b=>c*H a b) r :=
 have ⟨A,B,e⟩:=h
 ⟨λa k=>c*A a k,B,λa b=>by show c*H a b=_;rw[e,<- jf];exact aJ λk _=>(Rat.mul_assoc ..).symm⟩
theorem IL.map {α2 β2:Type}(h:IL H r)(f:α2->α)(g:β2->β):IL (λa b=>H (f a) (g b)) r :=
 have ⟨A,B,e⟩:=h
 ⟨λa k=>A (f a) k,λk b=>B k (g b),λa b=>e _ _⟩
theorem IL.zero:IL H 0 ↔ ∀ a b,H a b=0 :=
 ⟨λ⟨_,_,e⟩ a b=>by rw[e];rfl,λh=>⟨λ_ _=>0,λ_ _=>0,λa b=>by rw[h];rfl⟩⟩
structure xC (H:α->β->Rat) (r:Nat):Prop where
 fac:IL H r
 least:∀ s,IL H s->r<=s
theorem xC.unique (h:xC H r)(k:xC H s):r=s:=Nat.le_antisymm (h.least _ k.fac) (k.least _ h.fac)
theorem xC.turn (h:xC H r):xC (λb a=>H a b) r:=⟨h.fac.turn,λs k=>h.least s k.turn⟩
theorem Q7 {n:Nat}{rs:List bJ}(e:Ip n rs)(fac:IL H rs.length)(V:List α)(cols:Nat->β)(hv:∀ r,r ∈ rs->bK n (V.map λa=>(List.range n).map λj=>H a (cols j)) (vf r.v)):xC H rs.length :=
 ⟨fac,λs ⟨A,B,hs⟩=>by
  have h:=y7 (n:=n) ((List.range s).map λk=>(List.range n).map λj=>B k (cols j)) rs e λr hr=>(hv r hr).trans λb hb=>by
   obtain⟨a,_,rfl⟩:=jY hb;have key:∀ t,t<=s->bK n ((List.range s).map λk=>(List.range n).map λj=>B k (cols j)) λj=>aW (λk=>A a k*B k (cols j)) t:=by
    intro t
    induction t with
    | zero=>intro _;exact .zero λ_ _=>rfl
    | succ t ih =>
     intro ht;refine .add (A a t) (List.mem_map.2 ⟨t,List.mem_range.2 (by omega),rfl⟩) (ih (by omega)) λj hj=>?_
     rw[aW,aK _ _ hj]
   exact (key s (Nat.le_refl s)).congr λj hj=>by
    show ((List.range n).map λj=>H a (cols j)).getD j 0=_
    rw[aK _ _ hj,hs]
  rw[dD,List.length_range] at h;exact h⟩
end
abbrev Wd (k:Nat):={ w:List Int // iV k w }
def bI (m:dZ):dZ:=⟨m.n,m.fin,m.ini,m.Bj.map λM=>Gf m.n λi j=>(M.getD j []).getD i 0⟩
def jP (m:dZ)(u l:List Int):Rat:=Bl m.n (vf (bQ m u)) (vf (bQ (bI m) l))
section
variable {m:dZ}{u l:List Int}{n:Nat}{B:List (List Rat)}
theorem oU:(bI m).k=m.k:=by simp[dZ.k,bI]
theorem Hl (h:m.Ok):(bI m).Ok:=⟨h.fin,h.ini⟩
theorem TU {s i j:Nat}(hs:s<m.k)(hi:i<m.n)(hj:j<m.n):sG (bI m) s i j=sG m s j i:=by
 unfold sG bI;have e:(m.Bj.map λM=>Gf m.n λi j=>(M.getD j []).getD i 0).getD s []=Gf m.n λi j=>((m.Bj.getD s []).getD j []).getD i 0:=by
  rw[gI,List.getElem?_map,kL hs,gI,kL hs];rfl
 rw[e,J9 hi hj]
theorem TV {v x:List Rat}{s:Nat}(hs:s<m.k):Bl m.n (vf (stepM m v s)) (vf x)=Bl m.n (vf v) (vf (stepM (bI m) x s)):=by
 unfold Bl;rw[show aW (λi=>vf (stepM m v s) i*vf x i) m.n=aW (λj=>aW (λi=>v.getD i 0*sG m s i j*x.getD j 0) m.n) m.n from aJ λj hj=>by
  show (stepM m v s).getD j 0*_=_
  rw[Bo hj,<- uj]]
 rw[qZ];refine aJ λi hi=>?_;show _=v.getD i 0*(stepM (bI m) x s).getD i 0
 rw[Bo (m:=bI m) hi,<- jf];refine aJ λj hj=>?_;rw[TU hs hj hi,Rat.mul_assoc,Rat.mul_comm (sG m s i j)]
theorem yg:∀ (l u:List Int),iV m.k l->jP m u l=wW m (u++l.reverse):=by
 intro l
 induction hn:l.length generalizing l with
 | zero =>
  intro u _;rw[Gt hn,List.reverse_nil,List.append_nil];rfl
 | succ n ih =>
  intro u hl;have hne:l≠[]:=λe=>by subst e;cases hn
  obtain⟨y,x,rfl⟩:∃ y x,l=y++[x]:=⟨l.dropLast,l.getLast hne,(List.dropLast_concat_getLast hne).symm⟩;have hx:=hl x (by simp)
  rw[List.reverse_append,List.reverse_singleton,List.singleton_append,show u++x::y.reverse=(u++[x])++y.reverse by simp,<- ih y (by rw[iU,jL] at hn;omega) (u++[x]) λz hz=>hl z (List.mem_append.2 (.inl hz))]
  unfold jP;rw[lW,lW,<- TV (by omega)]
theorem bK.aM6 {v:Nat->Rat}(h:bK n B v):∃ c:Nat->Rat,∀ i,i<n->v i=aW (λk=>c k*(B.getD k []).getD i 0) B.length:=by
 induction h with
 | zero h=>exact⟨λ_=>0,λi hi=>by rw[h i hi];exact (lV λk _=>Rat.zero_mul _).symm⟩
 | @add u u' b a hb _ h ih =>
  obtain⟨c,hc⟩:=ih;obtain⟨p,hp,e⟩:=List.mem_iff_getElem.1 hb;refine⟨λk=>c k+if p=k then a else 0,λi hi=>?_⟩
  rw[h i hi,hc i hi,show aW (λk=>(c k+if p=k then a else 0)*(B.getD k []).getD i 0) B.length=aW (λk=>c k*(B.getD k []).getD i 0) B.length+aW (λk=>if p=k then a*(B.getD k []).getD i 0 else 0) B.length by
   rw[<- qG];refine aJ λk _=>?_;rw[Rat.add_mul];congr 1
   split
   .rfl
   .rw[Rat.zero_mul]]
  rw[vU (v:=λk=>a*(B.getD k []).getD i 0) hp];rw[show B.getD p []=b by rw[gI,kL hp,Option.getD_some,e]]
def dJ (m:dZ)(L:List (List Int))(u:List Int):List Rat:=(List.range L.length).map λj=>jP m u (L.getD j [])
theorem MI (m:dZ)(L:List (List Int)):Y7 m.n L.length λv j=>Bl m.n v (vf (bQ (bI m) (L.getD j []))) :=
 ⟨λu v h j _=>(Eb m.n _).loc u v h 0 (by decide),λu v c j _=>(Eb m.n (vf (bQ (bI m) (L.getD j [])))).add u v c 0 (by decide),λj _=>(Eb m.n (vf (bQ (bI m) (L.getD j [])))).zero 0 (by decide)⟩
theorem Gg {K L V V2:List (List Int)}{rs r1 r2:List bJ}(ok:m.Ok)(j:Join m V K [] r1)(j2:Join (bI m) V2 L [] r2)(e:Ip L.length rs)(h1:∀ r,r ∈ rs->bK L.length (K.map (dJ m L)) (vf r.v))(h2:∀ u,u ∈ K->bK L.length (lu rs) (vf (dJ m L u))) :
  xC (λ(u l:Wd m.k)=>jP m u.1 l.1) rs.length:=by
 classical
 have inK:∀ u,u ∈ K->iV m.k u:=λu hu=>j.MF.xB u (.inl (j.MF.sub u hu));have inL:∀ u,u ∈ L->iV m.k u:=λu hu=>by have:=j2.MF.xB u (.inl (j2.MF.sub u hu));rwa [oU] at this
 have hv:∀ u,iV m.k u->bK L.length (lu rs) λi=>jP m u (L.getD i []):=λu hu=>by
  have hs:=(j.MF.reach u hu λq hq=>by cases hq).mono (C:=vV m K) λb hb=>by
   obtain⟨z,hz,rfl⟩:=jY hb;exact List.mem_map.2 ⟨z,(eY.1 hz).1,rfl⟩
  refine hs.map (MI m L) λb hb=>?_;obtain⟨z,hz,rfl⟩:=jY hb;exact (h2 z hz).congr λi hi=>by
   show _=(dJ m L z).getD i 0
   unfold dJ;rw[aK _ _ hi];rfl
 have hl:∀ l,iV m.k l->bK m.n (vV (bI m) L) (vf (bQ (bI m) l)):=λl hl =>
  (j2.MF.reach l (by rw[oU];exact hl) λq hq=>by cases hq).mono λb hb=>by
   obtain⟨z,hz,rfl⟩:=jY hb;exact List.mem_map.2 ⟨z,(eY.1 hz).1,rfl⟩
 obtain⟨E,hE⟩:=Classical.axiomOfChoice (r:=λ(u:Wd m.k) (c:Nat->Rat)=>∀ i,i<L.length->jP m u.1 (L.getD i [])=aW (λk=>c k*((lu rs).getD k []).getD i 0) (lu rs).length) λu=>(hv u.1 u.2).aM6;obtain⟨D,hD⟩:=Classical.axiomOfChoice (r:=λ(l:Wd m.k) (c:Nat->Rat)=>∀ i,i<m.n->vf (bQ (bI m) l.1) i=aW (λk=>c k*((vV (bI m) L).getD k []).getD i 0) (vV (bI m) L).length) λl=>(hl l.1 l.2).aM6;have hrl:(lu rs).length=rs.length:=by simp[lu]
 have hll:(vV (bI m) L).length=L.length:=by simp[vV]
 have az0:IL (λ(u l:Wd m.k)=>jP m u.1 l.1) rs.length:=by
  refine⟨E,λk l=>aW (λi=>D l i*((lu rs).getD k []).getD i 0) L.length,λu l=>?_⟩;show jP m u.1 l.1=_
  have e1:jP m u.1 l.1=aW (λi=>D l i*jP m u.1 (L.getD i [])) L.length:=by
   unfold jP Bl;rw[show aW (λi=>vf (bQ m u.1) i*vf (bQ (bI m) l.1) i) m.n=aW (λi=>aW (λk=>D l k*(vf (bQ m u.1) i*vf (bQ (bI m) (L.getD k [])) i)) L.length) m.n from aJ λi hi=>by
    rw[hD l i hi,hll,<- jf];refine aJ λk hk=>?_;rw[show (vV (bI m) L).getD k []=bQ (bI m) (L.getD k []) by
     unfold vV;rw[gI,List.getElem?_map,kL hk,gI,kL hk];rfl]
    rw[<- Rat.mul_assoc,<- Rat.mul_assoc,Rat.mul_comm (vf (bQ m u.1) i)]]
   rw[qZ];exact aJ λk _=>by rw[jf]
  rw[e1,show aW (λi=>D l i*jP m u.1 (L.getD i [])) L.length=aW (λi=>aW (λk=>E u k*(D l i*((lu rs).getD k []).getD i 0)) rs.length) L.length from aJ λi hi=>by
   rw[hE u i hi,hrl,<- jf];exact aJ λk _=>by rw[<- Rat.mul_assoc,<- Rat.mul_assoc,Rat.mul_comm (D l i)]]
  rw[qZ];exact aJ λk _=>by rw[jf]
 refine Q7 e az0 (K.filterMap λu=>if h:iV m.k u then some ⟨u,h⟩ else none) (λi=>if h:iV m.k (L.getD i []) then ⟨L.getD i [],h⟩ else ⟨[],λx hx=>by cases hx⟩) λr hr=>(h1 r hr).mono λb hb=>?_
 obtain⟨u,hu,rfl⟩:=jY hb;refine List.mem_map.2 ⟨⟨u,inK u hu⟩,List.mem_filterMap.2 ⟨u,hu,by rw[dif_pos (inK u hu)]⟩,?_⟩
 refine List.map_congr_left λi hi=>?_;have hi:=List.mem_range.1 hi;rw[dif_pos (inL _ (getD_mem hi []))]

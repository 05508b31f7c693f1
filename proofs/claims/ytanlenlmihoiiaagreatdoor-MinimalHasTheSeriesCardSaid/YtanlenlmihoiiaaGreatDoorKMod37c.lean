/-
  M, chapter 37: the end of a word; when states are committed.
-/
import Derived.Test.YtanlenlmihoiiaaGreatDoorKRefC
set_option linter.unusedVariables false
set_option linter.unusedSimpArgs false
namespace Go.Proofs.YtanlenlmihoiiaaGreatDoor
open Go Go.AL
theorem uw {x y:Rat}(hx:sz x<=68719476736)(hy:sz y<=68719476736):ai P F.qm [vQ x,vQ y] (vQ (x+y)):=by
 have h:=qm (x:=iD x) (y:=iD y) (kD (by omega)) (kD (by omega))
 rw[oK,oK] at h;exact h
theorem xY {x y:Rat}(hx:sz x<=68719476736)(hy:sz y<=68719476736):ai P F.qo [vQ x,vQ y] (vQ (x*y)):=by
 have h:=qo (x:=iD x) (y:=iD y) (kD (by omega)) (kD (by omega))
 rw[oK,oK] at h;exact h
theorem rV {x:Rat}(hx:sz x<=68719476736):ai P F.oD [vQ x] (.d (dI (MC x))):=by
 have h:=oD (x:=iD x) (kD (by omega))
 rw[oK] at h;exact h
theorem MH {x:Rat}(hx:sz x<=274877906944):ai P F.kF [vQ x] (.d (dB true)):=by
 have h:=kF (r:=iD x) (kD hx);rw[NY] at h;exact h
theorem Fj {n d:Int}(hn:-9223372036854775808<=n/\n<=9223372036854775807)(hd:-9223372036854775808<=d/\d<=9223372036854775807)(h0:d≠0) :
  ai P F.oC [.d (dI n),.d (dI d)] (.oM [vQ ((n:Rat) / (d:Rat)),.d (dI 0)]):=oC hn hd h0
theorem q11:((1:Int):Rat) / ((1:Int):Rat)=1:=by show (1:Rat) / 1=1;grind
theorem z0K:sz 0<=68719476736:=by rw[fH];decide
end Go.Proofs.YtanlenlmihoiiaaGreatDoor
namespace Go.AL
open Go Go.BigFrame
def bn1 (h:HM)(fr:Int)(i:Nat):Rat:=if 0<=fr then (h.trans.getD fr.toNat []).getD i 0 else h.ini.getD i 0
def av9 (h:HM)(fr:Int)(x:Nat)(rest:List Rat)(i:Nat):Rat:=bn1 h fr i*(h.emit.getD i []).getD x 0*rest.getD i 0
def TJ (h:HM)(fr:Int)(x:Nat)(rest:List Rat):Nat->Rat × Nat
 | 0=>(0,0)
 | i+1=>if (TJ h fr x rest i).1<av9 h fr x rest i then (av9 h fr x rest i,i) else TJ h fr x rest i
def G8 (w:List Int)(t:Nat):Nat:=(w.getD t 0).toNat-1
def TK (h:HM)(w:List Int):Prop:=w.length<=256/\∀ x,x ∈ w->1<=x/\x<=h.sym
theorem TK.get {h:HM}{w:List Int}(k:TK h w){t:Nat}(ht:t<w.length):1<=w.getD t 0/\w.getD t 0<=h.sym:=k.2 _ (getD_mem ht 0)
theorem TK.G8 {h:HM}{w:List Int}(k:TK h w){t:Nat}(ht:t<w.length):Go.AL.G8 w t<h.sym/\w.getD t 0=((Go.AL.G8 w t+1:Nat):Int):=by
 have:=k.get ht;unfold Go.AL.G8;omega
theorem aO {α:Type}{n k:Nat}(f:Nat->α)(d:α)(hk:k<n):((List.range n).map f).getD k d=f k:=by
 rw[iO,List.getElem?_map,List.getElem?_range hk];rfl
def oh {α:Type}(d:α)(g:Nat->α)(n i:Nat):List α:=(List.range n).map λj=>if j<i then g j else d
theorem vG {α:Type}(d:α)(g:Nat->α)(n i:Nat):(oh d g n i).length=n:=by simp[oh]
theorem rW {α:Type}(d:α)(g:Nat->α)(n:Nat):oh d g n 0=List.replicate n d:=by
 refine List.ext_getElem (by simp[oh]) λk h1 h2=>?_
 simp[oh]
theorem qM {α:Type}{d:α}{g:Nat->α}{n i:Nat}(hi:i<n):(oh d g n i).set i (g i)=oh d g n (i+1):=by
 refine List.ext_getElem (by simp[oh]) λk h1 h2=>?_
 rw[List.getElem_set];simp only[oh,List.getElem_map,List.getElem_range];by_cases he:i=k
 .subst he;rw[if_pos rfl,if_pos (by omega)]
 .rw[if_neg he];by_cases h3:k<i
  .rw[if_pos h3,if_pos (by omega)]
  .rw[if_neg h3,if_neg (by omega)]
theorem CB {α:Type}(d:α)(g:Nat->α)(n:Nat):oh d g n n=(List.range n).map g:=by
 refine List.map_congr_left λj hj=>?_;rw[if_pos (List.mem_range.1 hj)]
def aW (f:Nat->Rat):Nat->Rat
 | 0=>0
 | n+1=>aW f n+f n
def trQ (h:HM)(i j:Nat):Rat:=(h.trans.getD i []).getD j 0
def emQ (h:HM)(i x:Nat):Rat:=(h.emit.getD i []).getD x 0
def aw0 (h:HM)(w:List Int)(prev:List Rat)(t j:Nat):Nat->Rat:=aW λi=>prev.getD i 0*trQ h i j
def Fp (h:HM)(w:List Int):Nat->List Rat
 | 0=>(List.range h.st).map λj=>h.ini.getD j 0*emQ h j (G8 w 0)
 | t+1=>(List.range h.st).map λj=>aw0 h w (Fp h w t) t j h.st*emQ h j (G8 w (t+1))
def aO0 (h:HM)(w:List Int)(next:List Rat)(t i:Nat):Nat->Rat:=aW λj=>trQ h i j*(emQ h j (G8 w (t+1))*next.getD j 0)
def Ol (h:HM)(w:List Int):Nat->List Rat
 | 0=>(List.range h.st).map λi=>h.stop.getD i 0
 | d+1=>(List.range h.st).map λi=>aO0 h w (Ol h w d) (w.length-1-(d+1)) i h.st
def aO1 (h:HM)(row:List Rat):Nat->Rat:=aW λi=>row.getD i 0*h.stop.getD i 0
def Om (h:HM)(w:List Int):Rat:=if w.length=0 then h.empty else aO1 h (Fp h w (w.length-1)) h.st
def wK (h:HM)(w:List Int)(t i:Nat):Rat:=(Fp h w t).getD i 0*(Ol h w (w.length-1-t)).getD i 0 / Om h w
def Oo (h:HM)(w:List Int)(t:Nat):List Rat:=(List.range h.st).map λi=>wK h w t i
theorem TL (x y:Rat):sz (x / y)<=sz x+sz y:=by
 by_cases h0:y=0
 .rw[h0,Rat.div_def,Rat.inv_zero,Rat.mul_zero,fH];have:=fH;omega
 .have hy:y.num.natAbs≠0:=by
   intro e;have:y.num=0:=by omega
   exact h0 (Rat.num_eq_zero.1 this)
  have hx:=mY x;have hyq:=mY y;have hd:=XQ (s:=decide (x.num<0)) (t:=decide (y.num<0)) (a:=x.num.natAbs) (b:=y.num.natAbs) (d1:=x.den) (d2:=y.den) x.den_nz y.den_nz hy;rw[hx,hyq] at hd;rw[hd];have l1:=gI x.num.natAbs y.den;have l2:=gI x.den y.num.natAbs;have a1:=lI x;have a2:=lJ x;have a3:=lI y;have a4:=lJ y;exact QF (Nat.mul_ne_zero x.den_nz hy) (by omega) (by omega)
structure QR (h:HM) (w:List Int):Prop where
 st:h.st<=4
 len:w.length<=6
structure bI1 (h:HM) (w:List Int):Prop where
 empty:sz h.empty<=68719476736
 ini:∀ i,sz (h.ini.getD i 0)<=68719476736
 em:∀ i x,sz (emQ h i x)<=68719476736
 tr:∀ i j,sz (trQ h i j)<=68719476736
 stop:∀ i,sz (h.stop.getD i 0)<=68719476736
 fwd:∀ t,t<w.length->∀ i,sz ((Fp h w t).getD i 0)<=68719476736
 pre:∀ t j n,t<w.length->n<=h.st->sz (aw0 h w (Fp h w t) t j n)<=68719476736
 bn:∀ t i j,t<w.length->sz ((Fp h w t).getD i 0*trQ h i j)<=68719476736
 lik:∀ t n,t<w.length->n<=h.st->sz (aO1 h (Fp h w t) n)<=68719476736
 bM3:∀ t i,t<w.length->sz ((Fp h w t).getD i 0*h.stop.getD i 0)<=68719476736
theorem Jm {l:List Rat}{n:Nat}(h:l.length=n):oh 0 (λj=>l.getD j 0) n n=l:=by
 rw[CB];refine yO (by rw[h];simp) 0 λi hi=>?_
 rw[dL,List.length_range] at hi;exact aO _ _ hi
theorem ZP {h:HM}{w:List Int}{t j:Nat}(ht:0<t)(hj:j<h.st):(Fp h w t).getD j 0=aw0 h w (Fp h w (t-1)) (t-1) j h.st*emQ h j (G8 w t):=by
 obtain⟨u,rfl⟩:∃ u,t=u+1:=⟨t-1,by omega⟩
 exact aO _ _ hj
theorem aw1 {h:HM}{w:List Int}{i:Nat}(hi:i<h.st):(Ol h w 0).getD i 0=h.stop.getD i 0:=aO _ _ hi
theorem ZQ {h:HM}{w:List Int}{d a i:Nat}(hd:0<d)(ha:a=w.length-1-d)(hi:i<h.st):(Ol h w d).getD i 0=aO0 h w (Ol h w (d-1)) a i h.st:=by
 obtain⟨u,rfl⟩:∃ u,d=u+1:=⟨d-1,by omega⟩
 subst ha;exact aO _ _ hi
def aY9 (h:HM)(w:List Int):List (List Rat):=if Om h w=0 then [] else (List.range w.length).map (Oo h w)
inductive cZ (n:Nat) (B:List (List Rat)):(Nat->Rat)->Prop
 | zero {u:Nat->Rat} (h:∀ i,i<n->u i=0):cZ n B u
 | add {u u':Nat->Rat} {b:List Rat} (c:Rat) (hb:b ∈ B) (hu:cZ n B u) (h:∀ i,i<n->u' i=u i+c*b.getD i 0):cZ n B u'
abbrev vf (l:List Rat):Nat->Rat:=λi=>l.getD i 0
section
variable {n:Nat}{B C:List (List Rat)}{u v:Nat->Rat}
theorem cZ.congr (h:cZ n B u)(e:∀ i,i<n->v i=u i):cZ n B v:=by
 cases h with
 | zero h=>exact .zero λi hi=>(e i hi).trans (h i hi)
 | add c hb hu h=>exact .add c hb hu λi hi=>(e i hi).trans (h i hi)
theorem cZ.mem {b:List Rat}(hb:b ∈ B):cZ n B (vf b):=.add 1 hb (.zero (u:=λ_=>0) λ_ _=>rfl) λi _=>by rw[Rat.one_mul,Rat.zero_add]
theorem cZ.mono (h:cZ n B u)(hs:∀ b,b ∈ B->b ∈ C):cZ n C u:=by
 induction h with
 | zero h=>exact .zero h
 | add c hb _ h ih=>exact .add c (hs _ hb) ih h
theorem cZ.plus (h:cZ n B u)(k:cZ n B v):cZ n B λi=>u i+v i:=by
 induction k with
 | zero k=>exact h.congr λi hi=>by rw[k i hi,Rat.add_zero]
 | add c hb _ k ih=>exact .add c hb ih λi hi=>by rw[k i hi,Rat.add_assoc]
theorem cZ.smul (h:cZ n B u)(a:Rat):cZ n B λi=>a*u i:=by
 induction h with
 | zero h=>exact .zero λi hi=>by rw[h i hi,Rat.mul_zero]
 | add c hb _ h ih=>exact .add (a*c) hb ih λi hi=>by rw[h i hi,Rat.mul_add,Rat.mul_assoc]
theorem cZ.trans (h:cZ n B u)(k:∀ b,b ∈ B->cZ n C (vf b)):cZ n C u:=by
 induction h with
 | zero h=>exact .zero h
 | add c hb _ h ih=>exact (ih.plus ((k _ hb).smul c)).congr λi hi=>h i hi
structure aw2 (n m:Nat) (L:(Nat->Rat)->Nat->Rat):Prop where
 loc:∀ u v,(∀ i,i<n->u i=v i)->∀ j,j<m->L u j=L v j
 add:∀ u v c j,j<m->L (λi=>u i+c*v i) j=L u j+c*L v j
 zero:∀ j,j<m->L (λ_=>0) j=0
theorem cZ.map {m:Nat}{L:(Nat->Rat)->Nat->Rat}(hL:aw2 n m L)(h:cZ n B u)(k:∀ b,b ∈ B->cZ m C (L (vf b))):cZ m C (L u):=by
 induction h with
 | @zero u h=>exact .zero λj hj=>(hL.loc u (λ_=>0) h j hj).trans (hL.zero j hj)
 | @add u u' b c hb _ h ih =>
  refine (ih.plus ((k _ hb).smul c)).congr λj hj=>?_;rw[hL.loc u' (λi=>u i+c*vf b i) h j hj,hL.add u (vf b) c j hj]
theorem cZ.kill {L:(Nat->Rat)->Nat->Rat}(hL:aw2 n 1 L)(h:cZ n B u)(k:∀ b,b ∈ B->L (vf b) 0=0):L u 0=0:=by
 induction h with
 | @zero u h=>exact (hL.loc u (λ_=>0) h 0 (by decide)).trans (hL.zero 0 (by decide))
 | @add u u' b c hb _ h ih=>rw[hL.loc u' (λi=>u i+c*vf b i) h 0 (by decide),hL.add u (vf b) c 0 (by decide),ih,k _ hb,Rat.mul_zero,Rat.add_zero]
theorem cZ.split {r:List Rat}(h:cZ n (r::B) u):∃ (c:Rat) (w:Nat->Rat),cZ n B w/\∀ i,i<n->u i=c*r.getD i 0+w i:=by
 induction h with
 | zero h=>exact⟨0,λ_=>0,.zero λ_ _=>rfl,λi hi=>by rw[h i hi,Rat.zero_mul,Rat.add_zero]⟩
 | @add u u' b a hb _ h ih =>
  obtain⟨c,w,h1,h2⟩:=ih;rcases List.mem_cons.1 hb with rfl|hb
  .exact⟨c+a,w,h1,λi hi=>by rw[h i hi,h2 i hi,Rat.add_mul,Rat.add_assoc,Rat.add_assoc,Rat.add_comm (w i)]⟩
  .exact⟨c,λi=>w i+a*b.getD i 0,.add a hb h1 λi _=>rfl,λi hi=>by rw[h i hi,h2 i hi,Rat.add_assoc]⟩
end
structure dh where
 v:List Rat
 c:List Rat
 p:Nat
instance:Inhabited dh:=⟨⟨[],[],0⟩⟩
def kz (w:List Rat)(r:dh):Rat:=w.getD r.p 0 / r.v.getD r.p 0
def jr (w:List Rat)(r:dh):List Rat:=(List.range w.length).map λi=>w.getD i 0-kz w r*r.v.getD i 0
def bC:List dh->List Rat->List Rat
 | [],w=>w
 | r::rs,w=>bC rs (jr w r)
def pz (rs:List dh):List (List Rat):=rs.map (·.v)
structure MI (n:Nat) (rs:List dh):Prop where
 piv:∀ r,r ∈ rs->r.p<n/\r.v.getD r.p 0≠0
 zero:rs.Pairwise λa b=>b.v.getD a.p 0=0
section
variable {n:Nat}{rs:List dh}{r:dh}{w:List Rat}
theorem pY:(jr w r).length=w.length:=by simp[jr]
theorem mD:∀ (rs:List dh) (w:List Rat),(bC rs w).length=w.length
 | [],_=>rfl
 | r::rs,w=>by rw[bC,mD rs,pY]
theorem yx {i:Nat}(hi:i<w.length):(jr w r).getD i 0=w.getD i 0-kz w r*r.v.getD i 0:=aO _ _ hi
theorem Jo (h0:kz w r=0):jr w r=w:=by
 refine yO pY 0 λi hi=>?_;rw[pY] at hi;rw[yx hi,h0,Rat.zero_mul,Rat.sub_eq_add_neg,Rat.neg_zero,Rat.add_zero]
theorem Vs (hp:r.p<w.length)(h0:r.v.getD r.p 0≠0):(jr w r).getD r.p 0=0:=by
 rw[yx hp,kz,Rat.div_mul_cancel h0,Rat.sub_self]
theorem CG:∀ (rs:List dh) (w:List Rat),cZ w.length (pz rs) λi=>w.getD i 0-(bC rs w).getD i 0
 | [],w=>.zero λi _=>by rw[bC,Rat.sub_self]
 | r::rs,w=>by
  have ih:=CG rs (jr w r);rw[pY] at ih;refine .add (b:=r.v) (kz w r) rY (ih.mono λb hb=>List.mem_cons_of_mem _ hb) λi hi=>?_;rw[yx hi,bC];rw[Rat.sub_eq_add_neg,Rat.sub_eq_add_neg,Rat.sub_eq_add_neg,Rat.add_assoc,Rat.add_assoc,Rat.add_comm (-(kz w r*_)),Rat.add_assoc,Rat.add_neg_cancel,Rat.add_zero]
theorem QS:∀ {rs:List dh} {w:List Rat} {p:Nat},p<w.length->w.getD p 0=0->(∀ r,r ∈ rs->r.v.getD p 0=0)->(bC rs w).getD p 0=0
 | [],_,_,_,h,_=>h
 | r::rs,w,p,hp,h,hz=>by
  rw[bC];refine QS (by rw[pY];exact hp) ?_ λq hq=>hz q (List.mem_cons_of_mem _ hq)
  rw[yx hp,h,hz r rY,Rat.mul_zero,Rat.sub_self]
theorem MI.tail (e:MI n (r::rs)):MI n rs:=⟨λq hq=>e.piv q (List.mem_cons_of_mem _ hq),(List.pairwise_cons.1 e.zero).2⟩
theorem Oq:∀ {rs:List dh} {w:List Rat},MI n rs->w.length=n->∀ r,r ∈ rs->(bC rs w).getD r.p 0=0
 | r :: rs, w, e, hw, q, hq => by
  rw[bC];rcases List.mem_cons.1 hq with rfl|hq
  .obtain⟨p1,p2⟩:=e.piv q rY;exact QS (by rw[pY,hw];exact p1) (Vs (by rw[hw];exact p1) p2) (List.pairwise_cons.1 e.zero).1
  .exact Oq e.tail (by rw[pY];exact hw) q hq
theorem MI.indep:∀ {rs:List dh} {u:Nat->Rat},MI n rs->cZ n (pz rs) u->(∀ r,r ∈ rs->u r.p=0)->∀ i,i<n->u i=0
 | [],u,_,h,_,i,hi=>by
  cases h with
  | zero h=>exact h i hi
  | add _ hb=>cases hb
 | r :: rs, u, e, h, hz, i, hi => by
  obtain⟨c,w,h1,h2⟩:=h.split
  obtain⟨p1,p2⟩:=e.piv r rY;have hw0:∀ {w:Nat->Rat},cZ n (pz rs) w->w r.p=0:=λ{w} h=>by
   induction h with
   | zero h=>exact h _ p1
   | add c hb _ h ih =>
    obtain⟨q,hq,rfl⟩:=jH hb;rw[h _ p1,ih,(List.pairwise_cons.1 e.zero).1 q hq,Rat.mul_zero,Rat.add_zero]
  have hc:c=0:=by
   have:=h2 _ p1;rw[hz r rY,hw0 h1,Rat.add_zero] at this;rcases Rat.mul_eq_zero.1 this.symm with h|h
   .exact h
   .exact absurd h p2
  have h3:∀ j,j<n->u j=w j:=λj hj=>by rw[h2 j hj,hc,Rat.zero_mul,Rat.zero_add]
  rw[h3 i hi];exact MI.indep e.tail h1 (λq hq=>by rw[<- h3 _ (e.piv q (List.mem_cons_of_mem _ hq)).1];exact hz q (List.mem_cons_of_mem _ hq)) i hi
def bn2 (w:List Rat):Prop:=∀ i,i<w.length->w.getD i 0=0
theorem aO2 (e:MI n rs)(hw:w.length=n):bn2 (bC rs w) ↔ cZ n (pz rs) (vf w):=by
 have hs:=CG rs w;rw[hw] at hs;constructor
 .intro h;refine hs.congr λi hi=>?_;rw[h i (by rw[mD,hw];exact hi),Rat.sub_eq_add_neg,Rat.neg_zero,Rat.add_zero]
 .intro h i hi;rw[mD,hw] at hi;refine MI.indep e (u:=vf (bC rs w)) ?_ (Oq e hw) i hi;refine (h.plus (hs.smul (-1))).congr λj hj=>?_;show (bC rs w).getD j 0=w.getD j 0 + -1*(w.getD j 0-(bC rs w).getD j 0)
  rw[Rat.neg_mul,Rat.one_mul,Rat.neg_sub,Rat.sub_eq_add_neg,Rat.add_comm (w.getD j 0),Rat.add_assoc,Rat.neg_add_cancel,Rat.add_zero]
theorem MI.grow (e:MI n rs)(hw:w.length=n){p:Nat}(c:List Rat)(hp:p<n)(h0:(bC rs w).getD p 0≠0):MI n (rs++[⟨bC rs w,c,p⟩]):=by
 refine⟨λr hr=>?_,List.pairwise_append.2 ⟨e.zero,List.pairwise_singleton ..,λa ha b hb=>?_⟩⟩
 .rcases ru hr with hr|hr
  .exact e.piv r hr
  .rw[lV hr];exact⟨hp,h0⟩
 .rw[lV hb];exact Oq e hw a ha
theorem LQ:∀ (n:Nat) (l:List Nat),l.Nodup->(∀ x,x ∈ l->x<n)->l.length<=n
 | 0,l,_,h=>by
  cases l with
  | nil=>exact Nat.le_refl _
  | cons x r=>exact absurd (h x rY) (Nat.not_lt_zero _)
 | n + 1, l, hn, h => by
  have h1:=LQ n (l.erase n) (hn.erase n) λx hx=>by
   have a:=h x (List.mem_of_mem_erase hx);have b:x≠n:=λe=>by subst e;exact (List.Nodup.not_mem_erase hn) hx
   omega
  by_cases hm:n ∈ l
  .rw[List.length_erase_of_mem hm] at h1;omega
  .rw[List.erase_of_not_mem hm] at h1;omega
theorem MI.len (e:MI n rs):rs.length<=n:=by
 rw[<- dL (f:=dh.p)];refine LQ n _ (List.pairwise_map.2 ?_) λx hx=>?_
 .refine e.zero.imp_of_mem λ{a b} _ hb h k=>?_;rw[k] at h;exact (e.piv b hb).2 h
 .obtain⟨r,hr,rfl⟩:=jH hx;exact (e.piv r hr).1
end
def xiQ (h:HM)(w:List Int)(t i j:Nat):Rat:=(Fp h w t).getD i 0*trQ h i j*(emQ h j (G8 w (t+1))*(Ol h w (w.length-1-(t+1))).getD j 0) / Om h w
def aZ0 (h:HM)(w:List Int)(n i x:Nat):Rat:=aW (λt=>if G8 w t=x then wK h w t i else 0) n
def Ot (h:HM)(w:List Int)(n i j:Nat):Rat:=aW (λt=>xiQ h w t i j) n
def TM (h:HM)(w:List Int)(n i:Nat):List Rat:=(List.range h.sym).map λx=>aZ0 h w n i x
def moveRow (h:HM)(w:List Int)(n i:Nat):List Rat:=(List.range h.st).map λj=>Ot h w n i j
theorem Jp {C:Nat}{f:Nat->Rat}:∀ n,(∀ i,i<n->sz (f i)<=C)->sz (aW f n)<=1+n*(C+1)
 | 0,_=>by show sz 0<=_;rw[fH];omega
 | n+1,hf=>by
  rw[aW,Nat.add_mul];have h1:=Jp n λi hi=>hf i (by omega)
  have h2:=zQ (aW f n) (f n);have h3:=hf n (by omega)
  omega
def exS (h:HM)(w:List Int):List Rat:=if Om h w=0 then [] else if w.length=0 then List.replicate h.st 0 else Oo h w 0
def exE (h:HM)(w:List Int):List Rat:=if Om h w=0 then [] else if w.length=0 then List.replicate h.st 0 else Oo h w (w.length-1)
def exM (h:HM)(w:List Int):List (List Rat):=if Om h w=0 then [] else (List.range h.st).map λi=>moveRow h w (w.length-1) i
def exO (h:HM)(w:List Int):List (List Rat):=if Om h w=0 then [] else (List.range h.st).map λi=>TM h w w.length i
structure Span where
 lo:Rat
 len:Rat
def Span.part (s:Span)(ch:List Rat)(k:Nat):Span:=⟨(ch.take k).foldl (λa p=>a+s.len*p) s.lo,s.len*ch.getD k 0⟩
def Span.inside (s t:Span):Prop:=t.lo<=s.lo/\s.lo+s.len<=t.lo+t.len
instance (s t:Span):Decidable (s.inside t):=inferInstanceAs (Decidable (_/\_))
def Span.one:Span:=⟨0,1⟩
def bB5 (read s:Span)(ch:List Rat)(k:Nat):Prop:=0<ch.getD k 0/\read.inside (s.part ch k)
instance (read s:Span) (ch:List Rat) (k:Nat):Decidable (bB5 read s ch k):=inferInstanceAs (Decidable (_/\_))
structure Rd where
 used:Nat
 read:Span
def Rd.step (bits:List Int)(r:Rd):Rd:=⟨r.used+1,⟨if bits.getD r.used 0=1 then r.read.lo+r.read.len*(1 / 2) else r.read.lo,r.read.len*(1 / 2)⟩⟩
def HM.next (h:HM):Option Nat->List Rat
 | none=>h.ini++[h.empty]
 | some i=>h.trans.getD i []++[h.stop.getD i 0]
inductive aO3 where
 | err (e:Int)
 | run (states word:List Int) (used:Nat)
def aw3 (s:Span)(l:List Rat):Rat:=l.foldl (λa p=>a+s.len*p) s.lo
theorem Vt {B c:Nat}{q:Rat}(hq:sz q<=c):∀ (l:List Rat) (a:Rat),Small B l->sz (l.foldl (λa p=>a+q*p) a)<=sz a+l.length*(c+B+1)
 | [],a,_=>by simp
 | x::l,a,h=>by
  rw[List.foldl_cons,List.length_cons,Nat.add_mul];have h1:=Vt hq l (a+q*x) λy hy=>h y (List.mem_cons_of_mem _ hy);have h2:=zQ a (q*x);have h3:=jS q x;have h4:=h x rY;omega
theorem ah0 {B c:Nat}{s:Span}{l:List Rat}(hq:sz s.len<=c)(h:Small B l):sz (aw3 s l)<=sz s.lo+l.length*(c+B+1):=Vt hq l s.lo h
structure X8 (t:Nat) (s:Span):Prop where
 lo:sz s.lo<=1+t*40000000
 len:sz s.len<=1+t*1024
theorem X8.part {t:Nat}{s:Span}{l:List Rat}(h:X8 t s)(ht:t<=600)(hl:Small 1024 l)(hn:l.length<=40)(k:Nat)(hk:k<l.length):X8 (t+1) (s.part l k):=by
 have h1:=ah0 (B:=1024) (s:=s) (l:=l.take k) h.len (hl.take k);have h2:(l.take k).length<=40:=by rw[List.length_take];omega
 have h3:=jS s.len (l.getD k 0);have h4:=hl.get (by decide) k
 have h5:=h.lo;have h6:=h.len;have h7:(l.take k).length*(1+t*1024+1024+1)<=40*(1+600*1024+1024+1):=Nat.mul_le_mul h2 (by omega)
 refine⟨?_,?_⟩
 .show sz (aw3 s (l.take k))<=_
  omega
 .show sz (s.len*l.getD k 0)<=_
  omega
structure bb6 (bits:List Int) (r:Rd):Prop where
 used:r.used<=bits.length
 bits:bits.length<=2000
 lo:sz r.read.lo<=1+3000*r.used
 len:sz r.read.len<=1+r.used
theorem aO4:((1:Int):Rat) / ((2:Int):Rat)=1 / 2:=by rw[show ((1:Int):Rat)=1 from rfl,show ((2:Int):Rat)=2 from rfl]
theorem aO5:sz (1 / 2)<=1:=by rw[<- aO4];exact au4 (by decide) (by decide) (by decide)
theorem bb6.step {bits:List Int}{r:Rd}(h:bb6 bits r)(hu:r.used<bits.length):bb6 bits (r.step bits):=by
 have h1:=h.lo;have h2:=h.len;have h3:=h.bits;have h4:=jS r.read.len (1 / 2);have h5:=aO5;have h6:=zQ r.read.lo (r.read.len*(1 / 2));generalize sz (1 / 2)=a5 at h4 h5;refine⟨hu,h3,?_,?_⟩
 .rw[show (r.step bits).used=r.used+1 from rfl,show (r.step bits).read.lo=(if bits.getD r.used 0=1 then r.read.lo+r.read.len*(1 / 2) else r.read.lo) from rfl]
  generalize r.read.lo+r.read.len*(1 / 2)=x6 at h6 ⊢;generalize r.read.len*(1 / 2)=x4 at h4 h6
  split <;> omega
 .rw[show (r.step bits).used=r.used+1 from rfl,show (r.step bits).read.len=r.read.len*(1 / 2) from rfl]
  omega
def bn4:List Int->List Int->Int
 | x::xs,y::ys=>if x<y then -1 else if y<x then 1 else bn4 xs ys
 | _,_=>0
def Kt (a b:List Int):Int:=if a.length≠b.length then (if a.length<b.length then -1 else 1) else bn4 a b
deriving instance DecidableEq for aO3
theorem aF {f g:Nat->Rat}:∀ {n:Nat},(∀ i,i<n->f i=g i)->aW f n=aW g n
 | 0,_=>rfl
 | n+1,h=>by rw[aW,aW,aF λi hi=>h i (by omega),h n (Nat.lt_succ_self n)]
theorem jk {f:Nat->Rat}:∀ {n:Nat},(∀ i,i<n->f i=0)->aW f n=0
 | 0,_=>rfl
 | n+1,h=>by rw[aW,jk λi hi=>h i (by omega),h n (Nat.lt_succ_self n)];grind
theorem pF (f g:Nat->Rat):∀ n,aW (λi=>f i+g i) n=aW f n+aW g n
 | 0=>by rw[aW,aW,aW];grind
 | n+1=>by rw[aW,aW,aW,pF f g n];grind
theorem nG (f:Nat->Rat)(c:Rat):∀ n,aW (λi=>f i*c) n=aW f n*c
 | 0=>by rw[aW,aW,Rat.zero_mul]
 | n+1=>by rw[aW,aW,nG f c n,Rat.add_mul]
theorem ig (f:Nat->Rat)(c:Rat)(n:Nat):aW (λi=>c*f i) n=c*aW f n:=by
 rw[Rat.mul_comm,<- nG];exact aF λi _=>Rat.mul_comm ..
theorem Ku (f:Nat->Rat)(c:Rat)(n:Nat):aW (λi=>f i / c) n=aW f n / c:=by
 rw[Rat.div_def,<- nG];exact aF λi _=>Rat.div_def ..
theorem pJ (f:Nat->Nat->Rat)(m:Nat):∀ n,aW (λi=>aW (λj=>f i j) m) n=aW (λj=>aW (λi=>f i j) n) m
 | 0=>by rw[aW];exact (jk λ_ _=>rfl).symm
 | n+1=>by
  rw[aW,pJ f m n,<- pF];exact aF λj _=>rfl
theorem Ou (f:Nat->Rat):∀ n,f 0+aW (λt=>f (t+1)) n=aW f (n+1)
 | 0=>by rw[aW,aW,aW];grind
 | n+1=>by rw[aW,aW,<- Ou f n];grind
theorem aw4 {h:HM}{w:List Int}{t d:Nat}(ht:d+1+t+1=w.length):aW (λi=>(Fp h w t).getD i 0*(Ol h w (d+1)).getD i 0) h.st=aW (λj=>(Fp h w (t+1)).getD j 0*(Ol h w d).getD j 0) h.st:=by
 have e1:∀ i,i<h.st->(Fp h w t).getD i 0*(Ol h w (d+1)).getD i 0=aW (λj=>(Fp h w t).getD i 0*trQ h i j*(emQ h j (G8 w (t+1))*(Ol h w d).getD j 0)) h.st:=λi hi=>by
  rw[ZQ (d:=d+1) (a:=t) (by omega) (by omega) hi,aO0,<- ig]
  exact aF λj _=>by rw[show d+1-1=d from rfl,Rat.mul_assoc]
 rw[aF e1,pJ];refine aF λj hj=>?_;rw[nG,ZP (t:=t+1) (by omega) hj,show t+1-1=t from rfl,aw0,Rat.mul_assoc]
theorem aw5 {h:HM}{w:List Int}:∀ {d t:Nat},d+t+1=w.length->aW (λi=>(Fp h w t).getD i 0*(Ol h w d).getD i 0) h.st=Om h w
 | 0,t,ht=>by
  rw[show Om h w=aO1 h (Fp h w (w.length-1)) h.st from if_neg (by omega),aO1,show w.length-1=t by omega]
  exact aF λi hi=>by rw[aw1 hi]
 | d+1,t,ht=>by
  rw[aw4 (by omega)]
  exact aw5 (by omega)
theorem aw6 {h:HM}{w:List Int}{t:Nat}(ht:t<w.length)(hz:Om h w≠0):aW (λi=>wK h w t i) h.st=1:=by
 unfold wK;rw[Ku,aw5 (by omega),Rat.div_def,Rat.mul_inv_cancel _ hz]
theorem bb7 {h:HM}{w:List Int}{t i:Nat}(ht:t+1<w.length)(hi:i<h.st):aW (λj=>xiQ h w t i j) h.st=wK h w t i:=by
 unfold xiQ wK;rw[Ku,ZQ (d:=w.length-1-t) (a:=t) (by omega) (by omega) hi,aO0,<- ig,show w.length-1-(t+1)=w.length-1-t-1 by omega]
 congr 1;exact aF λj _=>Rat.mul_assoc ..
theorem bb8 {h:HM}{w:List Int}{t j:Nat}(hj:j<h.st):aW (λi=>xiQ h w t i j) h.st=wK h w (t+1) j:=by
 unfold xiQ wK;rw[Ku,nG,ZP (t:=t+1) (by omega) hj,show t+1-1=t from rfl,aw0,Rat.mul_assoc]
theorem xh {v:Nat->Rat}{x n:Nat}(hx:x<n):aW (λy=>if x=y then v y else 0) n=v x:=by
 induction n with
 | zero=>omega
 | succ n ih =>
  rw[aW];by_cases hn:x=n
  .rw[if_pos hn,hn,jk λi hi=>if_neg (by omega)];grind
  .rw[if_neg hn,ih (by omega)];grind
theorem Vu {h:HM}{w:List Int}{i:Nat}:∀ {n:Nat},(∀ t,t<n->G8 w t<h.sym)->aW (λx=>aZ0 h w n i x) h.sym=aW (λt=>wK h w t i) n
 | 0,_=>jk λ_ _=>rfl
 | n+1,hx=>by
  rw[aW,<- Vu λt ht=>hx t (by omega)]
  rw[<- xh (v:=λ_=>wK h w n i) (hx n (Nat.lt_succ_self n)),<- pF];exact aF λx _=>rfl
theorem aw7 {h:HM}{w:List Int}{i:Nat}(hi:i<h.st):∀ {n:Nat},n<w.length->aW (λj=>Ot h w n i j) h.st+wK h w n i=aW (λt=>wK h w t i) (n+1):=λ{n} hn=>by
 rw[aW];congr 1;unfold Ot;rw[pJ];exact aF λt ht=>bb7 (by omega) hi
theorem aw8 {h:HM}{w:List Int}{i n:Nat}(hi:i<h.st):wK h w 0 i+aW (λj=>Ot h w n j i) h.st=aW (λt=>wK h w t i) (n+1):=by
 rw[<- Ou];congr 1;unfold Ot;rw[pJ];exact aF λt _=>bb8 hi
def aw9 (l:List Rat):Rat:=aW (λi=>l.getD i 0) l.length
theorem Ov {f:Nat->Rat}(n:Nat):aw9 ((List.range n).map f)=aW f n:=by
 unfold aw9;rw[dL,List.length_range];exact aF λi hi=>aO _ _ hi
structure Fit (h:HM) (w:List Int):Prop where
 row:∀ t,t<w.length->aw9 (Oo h w t)=1
 bI4:∀ i,aw9 (TM h w w.length i)=aW (λt=>wK h w t i) w.length
 out:∀ i,i<h.st->aw9 (moveRow h w (w.length-1) i)+wK h w (w.length-1) i=aW (λt=>wK h w t i) w.length
 into:∀ i,i<h.st->wK h w 0 i+aW (λj=>Ot h w (w.length-1) j i) h.st=aW (λt=>wK h w t i) w.length
theorem fit {h:HM}{w:List Int}(hx:∀ t,t<w.length->G8 w t<h.sym)(hz:Om h w≠0)(hn:w.length≠0):Fit h w :=
 ⟨λt ht=>(Ov _).trans (aw6 ht hz),λi=>(Ov _).trans (Vu hx),
  λi hi=>by rw[show moveRow h w (w.length-1) i=(List.range h.st).map λj=>Ot h w (w.length-1) i j from rfl,Ov,aw7 hi (by omega),show w.length-1+1=w.length by omega],
  λi hi=>by rw[aw8 hi,show w.length-1+1=w.length by omega]⟩
structure Got (h:HM) (w:List Int):Prop where
 pl:(aY9 h w).length=w.length
 pg:∀ t,t<w.length->(aY9 h w).getD t []=Oo h w t
 sS:exS h w=Oo h w 0
 sE:exE h w=Oo h w (w.length-1)
 lM:(exM h w).length=h.st
 lO:(exO h w).length=h.st
 gM:∀ i,i<h.st->(exM h w).getD i []=moveRow h w (w.length-1) i
 gO:∀ i,i<h.st->(exO h w).getD i []=TM h w w.length i
def mF {α:Type}(f:α->Rat):List α->Rat
 | []=>0
 | x::r=>f x+mF f r
theorem LU {α:Type}(f:α->Rat):∀ a b:List α,mF f (a++b)=mF f a+mF f b
 | [],b=>by rw[List.nil_append,mF,Rat.zero_add]
 | x::a,b=>by rw[List.cons_append,mF,mF,LU f a b,Rat.add_assoc]
theorem Ox {α β:Type}(f:β->Rat)(g:α->β):∀ l:List α,mF f (l.map g)=mF (λx=>f (g x)) l
 | []=>rfl
 | x::l=>by rw[List.map_cons,mF,Ox f g l];rfl
theorem Ih {α:Type}{f g:α->Rat}:∀ {l:List α},(∀ x,x ∈ l->f x=g x)->mF f l=mF g l
 | [],_=>rfl
 | x::l,h=>by rw[mF,mF,h x rY,Ih λy hy=>h y (List.mem_cons_of_mem _ hy)]
def TN (n:Nat):Nat->List (List Int)
 | 0=>[[]]
 | k+1=>(TN n k).flatMap λp=>(List.range n).map λ(s:Nat)=>p++[(s:Int)]
def atP (p:List Int)(t:Nat):Nat:=(p.getD t 0).toNat
def wgt (h:HM)(w:List Int)(p:List Int):Nat->Rat
 | 0=>h.ini.getD (atP p 0) 0
 | t+1=>(if t=0 then wgt h w p t else wgt h w p t*trQ h (atP p (t-1)) (atP p t))*emQ h (atP p t) (G8 w t)
def bn6 (h:HM)(p:Nat->Bool)(g:Nat->Rat):List Rat:=(List.range h.st).map λi=>if p i=true then g i else 0
def ax0 (h:HM)(w:List Int)(p:Nat->Nat->Bool):Nat->List Rat
 | 0=>bn6 h (p (w.length-1)) λi=>h.stop.getD i 0
 | d+1=>bn6 h (p (w.length-1-(d+1))) λi=>(TJ h (i:Nat) (G8 w (w.length-1-d)) (ax0 h w p d) h.st).1
def bn7 (h:HM)(w:List Int)(p:Nat->Nat->Bool)(fr:Int)(t:Nat):Rat × Nat:=TJ h fr (G8 w t) (ax0 h w p (w.length-1-t)) h.st
def toG (h:HM)(w:List Int)(p:Nat->Nat->Bool):Nat->Int
 | 0=>-1
 | t+1=>((bn7 h w p (toG h w p t) t).2:Nat)
def bn8 (h:HM)(w:List Int)(p:Nat->Nat->Bool)(t:Nat):List Int:=(List.range t).map λi=>toG h w p (i+1)
def aZ1 (h:HM)(w:List Int)(p:Nat->Nat->Bool):Rat:=(bn7 h w p (-1) 0).1
def every:Nat->Nat->Bool:=λ_ _=>true
structure bw9 (h:HM) (fr:Int) (x:Nat) (rest:List Rat) (n:Nat) (r:Rat × Nat):Prop where
 nonneg:0<=r.1
 le:∀ i,i<n->av9 h fr x rest i<=r.1
 zero:r.1=0->r.2=0
 lt:0<r.1->r.2<n
 eq:0<r.1->av9 h fr x rest r.2=r.1
 least:0<r.1->∀ i,i<r.2->av9 h fr x rest i<r.1
def bn9 (h:HM)(w:List Int)(p:Nat->Nat->Bool):Rat:=if w.length=0 then h.empty else aZ1 h w p
def bB6 (h:HM)(w:List Int)(p:Nat->Nat->Bool):List Int:=if w.length=0 \/ aZ1 h w p=0 then [] else bn8 h w p w.length
def bB7 (h:HM)(w:List Int)(p:Nat->Nat->Bool):Int:=if bn9 h w p=0 then 11 else 0
def bB8 (sets:List Int)(t:Nat):Nat:=if t<sets.length then (within (sets.getD t 0) 8).toNat else 7
def bo0 (x s:Nat):Bool:=decide (x / 2 ^ s % 2=1)
def rowA (x n:Nat):List Int:=((List.range n).filter λs=>bo0 x s).map λs:Nat=>(s:Int)
def bo1 (h:HM)(w sets:List Int)(n:Nat):Prop:=bB7 h w every=0/\∀ t,t<n->bo0 (bB8 sets t) ((bB6 h w every).getD t 0).toNat=true
instance (h:HM) (w sets:List Int) (n:Nat):Decidable (bo1 h w sets n):=inferInstanceAs (Decidable (_/\_))
def cmpL:List Int->List Int->Int
 | [],[]=>0
 | [],_::_=>-1
 | _::_,[]=>1
 | a::x,b::y=>if a<b then -1 else if b<a then 1 else cmpL x y
theorem Kv:∀ x:List Int,cmpL x x=0
 | []=>rfl
 | a::x=>by rw[cmpL,if_neg (by omega),if_neg (by omega),Kv x]
theorem Vw:∀ x y:List Int,cmpL y x = -cmpL x y
 | [],[]=>rfl
 | [],_::_=>rfl
 | _::_,[]=>rfl
 | a :: x, b :: y => by
  rw[cmpL,cmpL,Vw x y];by_cases h1:a<b
  .rw[if_neg (by omega),if_pos h1,if_pos h1];rfl
  .rw[if_neg h1];by_cases h2:b<a
   .rw[if_pos h2,if_neg h1,if_pos h2]
   .rw[if_neg h2,if_neg h2,if_neg h1]
theorem QT:∀ {x y:List Int},cmpL x y=0->x=y
 | [],[],_=>rfl
 | [],_::_,h=>by rw[cmpL] at h;exact absurd h (by decide)
 | _::_,[],h=>by rw[cmpL] at h;exact absurd h (by decide)
 | a :: x, b :: y, h => by
  rw[cmpL] at h;by_cases h1:a<b
  .rw[if_pos h1] at h;exact absurd h (by decide)
  .rw[if_neg h1] at h;by_cases h2:b<a
   .rw[if_pos h2] at h;exact absurd h (by decide)
   .rw[if_neg h2] at h;rw[QT h,show a=b by omega]
theorem Oy:∀ {x y z:List Int},cmpL x y<=0->cmpL y z<=0->cmpL x z<=0
 | [],_,[],_,_=>by rw[cmpL];decide
 | [],_,_::_,_,_=>by rw[cmpL];decide
 | _::_,[],_,h,_=>by rw[cmpL] at h;exact absurd h (by decide)
 | _::_,_::_,[],_,h=>by rw[cmpL] at h;exact absurd h (by decide)
 | a :: x, b :: y, c :: z, h1, h2 => by
  rw[cmpL] at h1 h2 ⊢;by_cases hab:a<b
  .by_cases hcb:c<b
   .rw[if_neg (by omega),if_pos hcb] at h2;exact absurd h2 (by decide)
   .rw[if_pos (by omega)];decide
  .rw[if_neg hab] at h1;by_cases hba:b<a
   .rw[if_pos hba] at h1;exact absurd h1 (by decide)
   .rw[if_neg hba] at h1;by_cases hbc:b<c
    .rw[if_pos (by omega)];decide
    .rw[if_neg hbc] at h2;by_cases hcb:c<b
     .rw[if_pos hcb] at h2;exact absurd h2 (by decide)
     .rw[if_neg hcb] at h2;rw[if_neg (by omega),if_neg (by omega)]
      exact Oy h1 h2
theorem Gs {a b:Int}:∀ {x y:List Int},x.length=y.length->cmpL (x++[a]) (y++[b])=if cmpL x y=0 then (if a<b then -1 else if b<a then 1 else 0) else cmpL x y
 | [],[],_=>by rw[List.nil_append,List.nil_append,cmpL,cmpL,if_pos rfl,cmpL]
 | [],_::_,h=>by simp at h
 | _::_,[],h=>by simp at h
 | c :: x, d :: y, h => by
  rw[List.cons_append,List.cons_append,cmpL,cmpL,Gs (by simpa using h)]
  by_cases h1:c<d
  .rw[if_pos h1,if_pos h1,if_neg (by decide)]
  .rw[if_neg h1,if_neg h1];by_cases h2:d<c
   .rw[if_pos h2,if_pos h2,if_neg (by decide)]
   .rw[if_neg h2,if_neg h2]
theorem Oz {a:Int}{x y:List Int}(h:x.length=y.length):cmpL (x++[a]) (y++[a])=cmpL x y:=by
 rw[Gs h]
 split
 .rename_i e;rw[if_neg (by omega),if_neg (by omega),e]
 .rfl
section
variable {h:HM}{bb B:Nat}{u:List Int}
def follow (h:HM)(u:List Int)(s i:Nat):Rat:=(ax0 h u every (u.length-1-s)).getD i 0
end
def bc4:List Int->List Int->Nat
 | a::x,b::y=>if a=b then bc4 x y+1 else 0
 | _,_=>0
def ah1 (al:Nat->Bool)(ps:Nat->List Int):Nat->Int × List Int
 | 0=>(-1,[])
 | i + 1 => if al i = true then
   (if (ah1 al ps i).1<0 then (((min (ps i).length (bc4 (ps i) (ps i)):Nat):Int),ps i) else (((min (ah1 al ps i).1.toNat (bc4 (ps i) (ah1 al ps i).2):Nat):Int),(ah1 al ps i).2)) else ah1 al ps i
structure bx2 (al:Nat->Bool) (ps:Nat->List Int) (n:Nat) (c:Int × List Int):Prop where
 none:(∀ i,i<n->al i=false)->c=(-1,[])
 some:(∃ i,i<n/\al i=true)->0<=c.1/\(∃ i,i<n/\al i=true/\c.2=ps i)/\(∀ i,i<n->al i=true->c.1.toNat<=(ps i).length/\(ps i).take c.1.toNat=c.2.take c.1.toNat) /\
  ∀ m,(∀ i,i<n->al i=true->m<=(ps i).length/\(ps i).take m=c.2.take m)->m<=c.1.toNat
structure Dec where
 t:Nat
 sc:List Rat
 tl:List (List Int)
 dn:List Int
def ZR (x:Rat)(y:List Int)(m:Rat × List Int):Prop:=m.1<x \/ (x=m.1/\0<x/\cmpL y m.2<0)
instance (x:Rat) (y:List Int) (m:Rat × List Int):Decidable (ZR x y m):=by unfold ZR;infer_instance
def ax1 (h:HM)(o:Dec)(j i:Nat):Rat:=o.sc.getD i 0*trQ h i j
section
variable {h:HM}{bb B:Nat}{u:List Int}{o:Dec}
structure bo2 (h:HM) (u:List Int) (t:Nat) (S:Nat->Rat) (Q:Nat->List Int):Prop where
 nonneg:∀ j,j<h.st->0<=S j
 max:∀ p,p ∈ TN h.st t->wgt h u p t<=S (atP p (t-1))
 live:∀ j,j<h.st->0<S j->Q j ∈ TN h.st t/\atP (Q j) (t-1)=j/\wgt h u (Q j) t=S j/\∀ p,p ∈ TN h.st t->atP p (t-1)=j->wgt h u p t=S j->cmpL (Q j) p<=0
structure bM6 (h:HM) (u:List Int) (o:Dec):Prop where
 le:o.t<=u.length
 zero:o.t=0->o.sc=[]/\o.tl=[]/\o.dn=[]
 len:o.t≠0->o.sc.length=h.st/\o.tl.length=h.st
 heads:o.t≠0->bo2 h u o.t (λj=>o.sc.getD j 0) λj=>o.dn++o.tl.getD j []
 dead:∀ j,¬ 0<o.sc.getD j 0->o.tl.getD j []=[]
 some:o.t≠0->∃ j,j<h.st/\0<o.sc.getD j 0
 com:o.t≠0->(ah1 (λj=>decide (0<o.sc.getD j 0)) (λj=>o.tl.getD j []) h.st).1=0
 small:Small (1+2048*o.t) o.sc
structure bo3 (h:HM) (o:Dec) (j n:Nat) (m:Rat × List Int):Prop where
 nonneg:0<=m.1
 le:∀ i,i<n->ax1 h o j i<=m.1
 pos:0<m.1->∃ i,i<n/\m=(ax1 h o j i,o.tl.getD i [])
 least:0<m.1->∀ i,i<n->ax1 h o j i=m.1->cmpL m.2 (o.tl.getD i [])<=0
end
def bc5 (h:HM)(o:Dec)(i:Nat):Rat:=o.sc.getD i 0*h.stop.getD i 0
structure bx3 (h:HM) (o:Dec) (n:Nat) (m:Rat × List Int):Prop where
 nonneg:0<=m.1
 le:∀ i,i<n->bc5 h o i<=m.1
 pos:0<m.1->∃ i,i<n/\m=(bc5 h o i,o.tl.getD i [])
 least:0<m.1->∀ i,i<n->bc5 h o i=m.1->cmpL m.2 (o.tl.getD i [])<=0
section
variable {h:HM}{bb B:Nat}{u:List Int}{o:Dec}
structure bx4 (ts:List Int) (n:Nat):Prop where
 ge:∀ s,s<ts.length->(s:Int)+1<=ts.getD s 0
 le:∀ s,s<ts.length->ts.getD s 0<=n
 mono:∀ s,s+1<ts.length->ts.getD s 0<=ts.getD (s+1) 0

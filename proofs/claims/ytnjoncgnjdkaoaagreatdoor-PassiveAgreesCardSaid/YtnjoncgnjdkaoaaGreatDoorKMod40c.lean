/-
  M, chapter 40, part 3: a drawing reckoned.
-/
import Derived.Test.YtnjoncgnjdkaoaaGreatDoorKRefC
set_option linter.unusedVariables false
set_option linter.unusedSimpArgs false
namespace Go.Proofs.YtnjoncgnjdkaoaaGreatDoor
open Go Go.AL
theorem uf {x y:Rat}(hx:sz x<=68719476736)(hy:sz y<=68719476736):aj P F.ql [vQ x,vQ y] (vQ (x+y)):=by
 have h:=ql (x:=fZ x) (y:=fZ y) (nT (by omega)) (nT (by omega))
 rw[qy,qy] at h;exact h
theorem kY {x y:Rat}(hx:sz x<=68719476736)(hy:sz y<=68719476736):aj P F.qf [vQ x,vQ y] (vQ (x*y)):=by
 have h:=qf (x:=fZ x) (y:=fZ y) (nT (by omega)) (nT (by omega))
 rw[qy,qy] at h;exact h
theorem gY {x:Rat}(hx:sz x<=68719476736):aj P F.kW [vQ x] (.d (dI (IW x))):=by
 have h:=kW (x:=fZ x) (nT (by omega))
 rw[qy] at h;exact h
theorem Hy {x y:Rat}(hx:sz x<=68719476736)(hy:sz y<=68719476736):aj P F.jI [vQ x,vQ y] (.d (dI (Y8 x y))):=by
 have h:=jI (x:=fZ x) (y:=fZ y) (D9 hx) (D9 hy);rw[qy,qy] at h;exact h
theorem yu {x:Rat}(hx:sz x<=274877906944):aj P F.jT [vQ x] (.d (dB true)):=by
 have h:=jT (r:=fZ x) (nT hx);rw[LD] at h;exact h
theorem zJ {n d:Int}(hn:-9223372036854775808<=n/\n<=9223372036854775807)(hd:-9223372036854775808<=d/\d<=9223372036854775807)(h0:d≠0) :
  aj P F.nY [.d (dI n),.d (dI d)] (.jS [vQ ((n:Rat) / (d:Rat)),.d (dI 0)]):=nY hn hd h0
theorem q11:((1:Int):Rat) / ((1:Int):Rat)=1:=by show (1:Rat) / 1=1;grind
theorem z0K:sz 0<=68719476736:=by rw[gm];decide
end Go.Proofs.YtnjoncgnjdkaoaaGreatDoor
namespace Go.AL
open Go Go.BigFrame
def a94 (h:HM)(fr:Int)(i:Nat):Rat:=if 0<=fr then (h.trans.getD fr.toNat []).getD i 0 else h.ini.getD i 0
def ah6 (h:HM)(fr:Int)(x:Nat)(rest:List Rat)(i:Nat):Rat:=a94 h fr i*(h.emit.getD i []).getD x 0*rest.getD i 0
def Rf (h:HM)(fr:Int)(x:Nat)(rest:List Rat):Nat->Rat × Nat
 | 0=>(0,0)
 | i+1=>if (Rf h fr x rest i).1<ah6 h fr x rest i then (ah6 h fr x rest i,i) else Rf h fr x rest i
def FN (w:List Int)(t:Nat):Nat:=(w.getD t 0).toNat-1
def MC (h:HM)(w:List Int):Prop:=w.length<=256/\∀ x,x ∈ w->1<=x/\x<=h.sym
theorem MC.get {h:HM}{w:List Int}(k:MC h w){t:Nat}(ht:t<w.length):1<=w.getD t 0/\w.getD t 0<=h.sym:=k.2 _ (getD_mem ht 0)
theorem MC.FN {h:HM}{w:List Int}(k:MC h w){t:Nat}(ht:t<w.length):Go.AL.FN w t<h.sym/\w.getD t 0=((Go.AL.FN w t+1:Nat):Int):=by
 have:=k.get ht;unfold Go.AL.FN;omega
theorem aT {α:Type}{n k:Nat}(f:Nat->α)(d:α)(hk:k<n):((List.range n).map f).getD k d=f k:=by
 rw[ig,List.getElem?_map,List.getElem?_range hk];rfl
def kZ {α:Type}(d:α)(g:Nat->α)(n i:Nat):List α:=(List.range n).map λj=>if j<i then g j else d
theorem sF {α:Type}(d:α)(g:Nat->α)(n i:Nat):(kZ d g n i).length=n:=by simp[kZ]
theorem rF {α:Type}(d:α)(g:Nat->α)(n:Nat):kZ d g n 0=List.replicate n d:=by
 refine List.ext_getElem (by simp[kZ]) λk h1 h2=>?_
 simp[kZ]
theorem pq {α:Type}{d:α}{g:Nat->α}{n i:Nat}(hi:i<n):(kZ d g n i).set i (g i)=kZ d g n (i+1):=by
 refine List.ext_getElem (by simp[kZ]) λk h1 h2=>?_
 rw[List.getElem_set];simp only[kZ,List.getElem_map,List.getElem_range];by_cases he:i=k
 .subst he;rw[if_pos rfl,if_pos (by omega)]
 .rw[if_neg he];by_cases h3:k<i
  .rw[if_pos h3,if_pos (by omega)]
  .rw[if_neg h3,if_neg (by omega)]
theorem EZ {α:Type}(d:α)(g:Nat->α)(n:Nat):kZ d g n n=(List.range n).map g:=by
 refine List.map_congr_left λj hj=>?_;rw[if_pos (List.mem_range.1 hj)]
def aX (f:Nat->Rat):Nat->Rat
 | 0=>0
 | n+1=>aX f n+f n
def trQ (h:HM)(i j:Nat):Rat:=(h.trans.getD i []).getD j 0
def emQ (h:HM)(i x:Nat):Rat:=(h.emit.getD i []).getD x 0
def ah7 (h:HM)(w:List Int)(prev:List Rat)(t j:Nat):Nat->Rat:=aX λi=>prev.getD i 0*trQ h i j
def Em (h:HM)(w:List Int):Nat->List Rat
 | 0=>(List.range h.st).map λj=>h.ini.getD j 0*emQ h j (FN w 0)
 | t+1=>(List.range h.st).map λj=>ah7 h w (Em h w t) t j h.st*emQ h j (FN w (t+1))
def aA3 (h:HM)(w:List Int)(next:List Rat)(t i:Nat):Nat->Rat:=aX λj=>trQ h i j*(emQ h j (FN w (t+1))*next.getD j 0)
def MF (h:HM)(w:List Int):Nat->List Rat
 | 0=>(List.range h.st).map λi=>h.stop.getD i 0
 | d+1=>(List.range h.st).map λi=>aA3 h w (MF h w d) (w.length-1-(d+1)) i h.st
def aA4 (h:HM)(row:List Rat):Nat->Rat:=aX λi=>row.getD i 0*h.stop.getD i 0
def MG (h:HM)(w:List Int):Rat:=if w.length=0 then h.empty else aA4 h (Em h w (w.length-1)) h.st
def vY (h:HM)(w:List Int)(t i:Nat):Rat:=(Em h w t).getD i 0*(MF h w (w.length-1-t)).getD i 0 / MG h w
def MH (h:HM)(w:List Int)(t:Nat):List Rat:=(List.range h.st).map λi=>vY h w t i
theorem MI (x y:Rat):sz (x / y)<=sz x+sz y:=by
 by_cases h0:y=0
 .rw[h0,Rat.div_def,Rat.inv_zero,Rat.mul_zero,gm];have:=gm;omega
 .have hy:y.num.natAbs≠0:=by
   intro e;have:y.num=0:=by omega
   exact h0 (Rat.num_eq_zero.1 this)
  have hx:=o5 x;have hyq:=o5 y;have hd:=af7 (s:=decide (x.num<0)) (t:=decide (y.num<0)) (a:=x.num.natAbs) (b:=y.num.natAbs) (d1:=x.den) (d2:=y.den) x.den_nz y.den_nz hy;rw[hx,hyq] at hd;rw[hd];have l1:=gJ x.num.natAbs y.den;have l2:=gJ x.den y.num.natAbs;have a1:=lF x;have a2:=lG x;have a3:=lF y;have a4:=lG y;exact O0 (Nat.mul_ne_zero x.den_nz hy) (by omega) (by omega)
structure Pj (h:HM) (w:List Int):Prop where
 st:h.st<=4
 len:w.length<=6
structure bu6 (h:HM) (w:List Int):Prop where
 empty:sz h.empty<=68719476736
 ini:∀ i,sz (h.ini.getD i 0)<=68719476736
 em:∀ i x,sz (emQ h i x)<=68719476736
 tr:∀ i j,sz (trQ h i j)<=68719476736
 stop:∀ i,sz (h.stop.getD i 0)<=68719476736
 fwd:∀ t,t<w.length->∀ i,sz ((Em h w t).getD i 0)<=68719476736
 pre:∀ t j n,t<w.length->n<=h.st->sz (ah7 h w (Em h w t) t j n)<=68719476736
 bm5:∀ t i j,t<w.length->sz ((Em h w t).getD i 0*trQ h i j)<=68719476736
 lik:∀ t n,t<w.length->n<=h.st->sz (aA4 h (Em h w t) n)<=68719476736
 bz6:∀ t i,t<w.length->sz ((Em h w t).getD i 0*h.stop.getD i 0)<=68719476736
theorem En {l:List Rat}{n:Nat}(h:l.length=n):kZ 0 (λj=>l.getD j 0) n n=l:=by
 rw[EZ];refine yA (by rw[h];simp) 0 λi hi=>?_
 rw[dJ,List.length_range] at hi;exact aT _ _ hi
theorem XZ {h:HM}{w:List Int}{t j:Nat}(ht:0<t)(hj:j<h.st):(Em h w t).getD j 0=ah7 h w (Em h w (t-1)) (t-1) j h.st*emQ h j (FN w t):=by
 obtain⟨u,rfl⟩:∃ u,t=u+1:=⟨t-1,by omega⟩
 exact aT _ _ hj
theorem ah8 {h:HM}{w:List Int}{i:Nat}(hi:i<h.st):(MF h w 0).getD i 0=h.stop.getD i 0:=aT _ _ hi
theorem X0 {h:HM}{w:List Int}{d a i:Nat}(hd:0<d)(ha:a=w.length-1-d)(hi:i<h.st):(MF h w d).getD i 0=aA3 h w (MF h w (d-1)) a i h.st:=by
 obtain⟨u,rfl⟩:∃ u,d=u+1:=⟨d-1,by omega⟩
 subst ha;exact aT _ _ hi
def aK6 (h:HM)(w:List Int):List (List Rat):=if MG h w=0 then [] else (List.range w.length).map (MH h w)
inductive bU (n:Nat) (B:List (List Rat)):(Nat->Rat)->Prop
 | zero {u:Nat->Rat} (h:∀ i,i<n->u i=0):bU n B u
 | add {u u':Nat->Rat} {b:List Rat} (c:Rat) (hb:b ∈ B) (hu:bU n B u) (h:∀ i,i<n->u' i=u i+c*b.getD i 0):bU n B u'
abbrev vf (l:List Rat):Nat->Rat:=λi=>l.getD i 0
section
variable {n:Nat}{B C:List (List Rat)}{u v:Nat->Rat}
theorem bU.congr (h:bU n B u)(e:∀ i,i<n->v i=u i):bU n B v:=by
 cases h with
 | zero h=>exact .zero λi hi=>(e i hi).trans (h i hi)
 | add c hb hu h=>exact .add c hb hu λi hi=>(e i hi).trans (h i hi)
theorem bU.mem {b:List Rat}(hb:b ∈ B):bU n B (vf b):=.add 1 hb (.zero (u:=λ_=>0) λ_ _=>rfl) λi _=>by rw[Rat.one_mul,Rat.zero_add]
theorem bU.mono (h:bU n B u)(hs:∀ b,b ∈ B->b ∈ C):bU n C u:=by
 induction h with
 | zero h=>exact .zero h
 | add c hb _ h ih=>exact .add c (hs _ hb) ih h
theorem bU.plus (h:bU n B u)(k:bU n B v):bU n B λi=>u i+v i:=by
 induction k with
 | zero k=>exact h.congr λi hi=>by rw[k i hi,Rat.add_zero]
 | add c hb _ k ih=>exact .add c hb ih λi hi=>by rw[k i hi,Rat.add_assoc]
theorem bU.smul (h:bU n B u)(a:Rat):bU n B λi=>a*u i:=by
 induction h with
 | zero h=>exact .zero λi hi=>by rw[h i hi,Rat.mul_zero]
 | add c hb _ h ih=>exact .add (a*c) hb ih λi hi=>by rw[h i hi,Rat.mul_add,Rat.mul_assoc]
theorem bU.trans (h:bU n B u)(k:∀ b,b ∈ B->bU n C (vf b)):bU n C u:=by
 induction h with
 | zero h=>exact .zero h
 | add c hb _ h ih=>exact (ih.plus ((k _ hb).smul c)).congr λi hi=>h i hi
structure ah9 (n m:Nat) (L:(Nat->Rat)->Nat->Rat):Prop where
 loc:∀ u v,(∀ i,i<n->u i=v i)->∀ j,j<m->L u j=L v j
 add:∀ u v c j,j<m->L (λi=>u i+c*v i) j=L u j+c*L v j
 zero:∀ j,j<m->L (λ_=>0) j=0
theorem bU.map {m:Nat}{L:(Nat->Rat)->Nat->Rat}(hL:ah9 n m L)(h:bU n B u)(k:∀ b,b ∈ B->bU m C (L (vf b))):bU m C (L u):=by
 induction h with
 | @zero u h=>exact .zero λj hj=>(hL.loc u (λ_=>0) h j hj).trans (hL.zero j hj)
 | @add u u' b c hb _ h ih =>
  refine (ih.plus ((k _ hb).smul c)).congr λj hj=>?_;rw[hL.loc u' (λi=>u i+c*vf b i) h j hj,hL.add u (vf b) c j hj]
theorem bU.kill {L:(Nat->Rat)->Nat->Rat}(hL:ah9 n 1 L)(h:bU n B u)(k:∀ b,b ∈ B->L (vf b) 0=0):L u 0=0:=by
 induction h with
 | @zero u h=>exact (hL.loc u (λ_=>0) h 0 (by decide)).trans (hL.zero 0 (by decide))
 | @add u u' b c hb _ h ih=>rw[hL.loc u' (λi=>u i+c*vf b i) h 0 (by decide),hL.add u (vf b) c 0 (by decide),ih,k _ hb,Rat.mul_zero,Rat.add_zero]
theorem bU.split {r:List Rat}(h:bU n (r::B) u):∃ (c:Rat) (w:Nat->Rat),bU n B w/\∀ i,i<n->u i=c*r.getD i 0+w i:=by
 induction h with
 | zero h=>exact⟨0,λ_=>0,.zero λ_ _=>rfl,λi hi=>by rw[h i hi,Rat.zero_mul,Rat.add_zero]⟩
 | @add u u' b a hb _ h ih =>
  obtain⟨c,w,h1,h2⟩:=ih;rcases List.mem_cons.1 hb with rfl|hb
  .exact⟨c+a,w,h1,λi hi=>by rw[h i hi,h2 i hi,Rat.add_mul,Rat.add_assoc,Rat.add_assoc,Rat.add_comm (w i)]⟩
  .exact⟨c,λi=>w i+a*b.getD i 0,.add a hb h1 λi _=>rfl,λi hi=>by rw[h i hi,h2 i hi,Rat.add_assoc]⟩
end
structure bW where
 v:List Rat
 c:List Rat
 p:Nat
instance:Inhabited bW:=⟨⟨[],[],0⟩⟩
def jZ (w:List Rat)(r:bW):Rat:=w.getD r.p 0 / r.v.getD r.p 0
def jl (w:List Rat)(r:bW):List Rat:=(List.range w.length).map λi=>w.getD i 0-jZ w r*r.v.getD i 0
def bg:List bW->List Rat->List Rat
 | [],w=>w
 | r::rs,w=>bg rs (jl w r)
def oG (rs:List bW):List (List Rat):=rs.map (·.v)
structure JL (n:Nat) (rs:List bW):Prop where
 piv:∀ r,r ∈ rs->r.p<n/\r.v.getD r.p 0≠0
 zero:rs.Pairwise λa b=>b.v.getD a.p 0=0
section
variable {n:Nat}{rs:List bW}{r:bW}{w:List Rat}
theorem pV:(jl w r).length=w.length:=by simp[jl]
theorem pz:∀ (rs:List bW) (w:List Rat),(bg rs w).length=w.length
 | [],_=>rfl
 | r::rs,w=>by rw[bg,pz rs,pV]
theorem xX {i:Nat}(hi:i<w.length):(jl w r).getD i 0=w.getD i 0-jZ w r*r.v.getD i 0:=aT _ _ hi
theorem Hz (h0:jZ w r=0):jl w r=w:=by
 refine yA pV 0 λi hi=>?_;rw[pV] at hi;rw[xX hi,h0,Rat.zero_mul,Rat.sub_eq_add_neg,Rat.neg_zero,Rat.add_zero]
theorem TQ (hp:r.p<w.length)(h0:r.v.getD r.p 0≠0):(jl w r).getD r.p 0=0:=by
 rw[xX hp,jZ,Rat.div_mul_cancel h0,Rat.sub_self]
theorem BI:∀ (rs:List bW) (w:List Rat),bU w.length (oG rs) λi=>w.getD i 0-(bg rs w).getD i 0
 | [],w=>.zero λi _=>by rw[bg,Rat.sub_self]
 | r::rs,w=>by
  have ih:=BI rs (jl w r);rw[pV] at ih;refine .add (b:=r.v) (jZ w r) uZ (ih.mono λb hb=>List.mem_cons_of_mem _ hb) λi hi=>?_;rw[xX hi,bg];rw[Rat.sub_eq_add_neg,Rat.sub_eq_add_neg,Rat.sub_eq_add_neg,Rat.add_assoc,Rat.add_assoc,Rat.add_comm (-(jZ w r*_)),Rat.add_assoc,Rat.add_neg_cancel,Rat.add_zero]
theorem Pm:∀ {rs:List bW} {w:List Rat} {p:Nat},p<w.length->w.getD p 0=0->(∀ r,r ∈ rs->r.v.getD p 0=0)->(bg rs w).getD p 0=0
 | [],_,_,_,h,_=>h
 | r::rs,w,p,hp,h,hz=>by
  rw[bg];refine Pm (by rw[pV];exact hp) ?_ λq hq=>hz q (List.mem_cons_of_mem _ hq)
  rw[xX hp,h,hz r uZ,Rat.mul_zero,Rat.sub_self]
theorem JL.tail (e:JL n (r::rs)):JL n rs:=⟨λq hq=>e.piv q (List.mem_cons_of_mem _ hq),(List.pairwise_cons.1 e.zero).2⟩
theorem MJ:∀ {rs:List bW} {w:List Rat},JL n rs->w.length=n->∀ r,r ∈ rs->(bg rs w).getD r.p 0=0
 | r :: rs, w, e, hw, q, hq => by
  rw[bg];rcases List.mem_cons.1 hq with rfl|hq
  .obtain⟨p1,p2⟩:=e.piv q uZ;exact Pm (by rw[pV,hw];exact p1) (TQ (by rw[hw];exact p1) p2) (List.pairwise_cons.1 e.zero).1
  .exact MJ e.tail (by rw[pV];exact hw) q hq
theorem JL.indep:∀ {rs:List bW} {u:Nat->Rat},JL n rs->bU n (oG rs) u->(∀ r,r ∈ rs->u r.p=0)->∀ i,i<n->u i=0
 | [],u,_,h,_,i,hi=>by
  cases h with
  | zero h=>exact h i hi
  | add _ hb=>cases hb
 | r :: rs, u, e, h, hz, i, hi => by
  obtain⟨c,w,h1,h2⟩:=h.split
  obtain⟨p1,p2⟩:=e.piv r uZ;have hw0:∀ {w:Nat->Rat},bU n (oG rs) w->w r.p=0:=λ{w} h=>by
   induction h with
   | zero h=>exact h _ p1
   | add c hb _ h ih =>
    obtain⟨q,hq,rfl⟩:=mM hb;rw[h _ p1,ih,(List.pairwise_cons.1 e.zero).1 q hq,Rat.mul_zero,Rat.add_zero]
  have hc:c=0:=by
   have:=h2 _ p1;rw[hz r uZ,hw0 h1,Rat.add_zero] at this;rcases Rat.mul_eq_zero.1 this.symm with h|h
   .exact h
   .exact absurd h p2
  have h3:∀ j,j<n->u j=w j:=λj hj=>by rw[h2 j hj,hc,Rat.zero_mul,Rat.zero_add]
  rw[h3 i hi];exact JL.indep e.tail h1 (λq hq=>by rw[<- h3 _ (e.piv q (List.mem_cons_of_mem _ hq)).1];exact hz q (List.mem_cons_of_mem _ hq)) i hi
def a95 (w:List Rat):Prop:=∀ i,i<w.length->w.getD i 0=0
theorem aA5 (e:JL n rs)(hw:w.length=n):a95 (bg rs w) ↔ bU n (oG rs) (vf w):=by
 have hs:=BI rs w;rw[hw] at hs;constructor
 .intro h;refine hs.congr λi hi=>?_;rw[h i (by rw[pz,hw];exact hi),Rat.sub_eq_add_neg,Rat.neg_zero,Rat.add_zero]
 .intro h i hi;rw[pz,hw] at hi;refine JL.indep e (u:=vf (bg rs w)) ?_ (MJ e hw) i hi;refine (h.plus (hs.smul (-1))).congr λj hj=>?_;show (bg rs w).getD j 0=w.getD j 0 + -1*(w.getD j 0-(bg rs w).getD j 0)
  rw[Rat.neg_mul,Rat.one_mul,Rat.neg_sub,Rat.sub_eq_add_neg,Rat.add_comm (w.getD j 0),Rat.add_assoc,Rat.neg_add_cancel,Rat.add_zero]
theorem JL.grow (e:JL n rs)(hw:w.length=n){p:Nat}(c:List Rat)(hp:p<n)(h0:(bg rs w).getD p 0≠0):JL n (rs++[⟨bg rs w,c,p⟩]):=by
 refine⟨λr hr=>?_,List.pairwise_append.2 ⟨e.zero,List.pairwise_singleton ..,λa ha b hb=>?_⟩⟩
 .rcases ul hr with hr|hr
  .exact e.piv r hr
  .rw[lW hr];exact⟨hp,h0⟩
 .rw[lW hb];exact MJ e hw a ha
theorem JM:∀ (n:Nat) (l:List Nat),l.Nodup->(∀ x,x ∈ l->x<n)->l.length<=n
 | 0,l,_,h=>by
  cases l with
  | nil=>exact Nat.le_refl _
  | cons x r=>exact absurd (h x uZ) (Nat.not_lt_zero _)
 | n + 1, l, hn, h => by
  have h1:=JM n (l.erase n) (hn.erase n) λx hx=>by
   have a:=h x (List.mem_of_mem_erase hx);have b:x≠n:=λe=>by subst e;exact (List.Nodup.not_mem_erase hn) hx
   omega
  by_cases hm:n ∈ l
  .rw[List.length_erase_of_mem hm] at h1;omega
  .rw[List.erase_of_not_mem hm] at h1;omega
theorem JL.len (e:JL n rs):rs.length<=n:=by
 rw[<- dJ (f:=bW.p)];refine JM n _ (List.pairwise_map.2 ?_) λx hx=>?_
 .refine e.zero.imp_of_mem λ{a b} _ hb h k=>?_;rw[k] at h;exact (e.piv b hb).2 h
 .obtain⟨r,hr,rfl⟩:=mM hx;exact (e.piv r hr).1
end
def xiQ (h:HM)(w:List Int)(t i j:Nat):Rat:=(Em h w t).getD i 0*trQ h i j*(emQ h j (FN w (t+1))*(MF h w (w.length-1-(t+1))).getD j 0) / MG h w
def aK7 (h:HM)(w:List Int)(n i x:Nat):Rat:=aX (λt=>if FN w t=x then vY h w t i else 0) n
def MK (h:HM)(w:List Int)(n i j:Nat):Rat:=aX (λt=>xiQ h w t i j) n
def Rh (h:HM)(w:List Int)(n i:Nat):List Rat:=(List.range h.sym).map λx=>aK7 h w n i x
def moveRow (h:HM)(w:List Int)(n i:Nat):List Rat:=(List.range h.st).map λj=>MK h w n i j
theorem TR {C:Nat}{f:Nat->Rat}:∀ n,(∀ i,i<n->sz (f i)<=C)->sz (aX f n)<=1+n*(C+1)
 | 0,_=>by show sz 0<=_;rw[gm];omega
 | n+1,hf=>by
  rw[aX,Nat.add_mul];have h1:=TR n λi hi=>hf i (by omega)
  have h2:=Bd (aX f n) (f n);have h3:=hf n (by omega)
  omega
def exS (h:HM)(w:List Int):List Rat:=if MG h w=0 then [] else if w.length=0 then List.replicate h.st 0 else MH h w 0
def exE (h:HM)(w:List Int):List Rat:=if MG h w=0 then [] else if w.length=0 then List.replicate h.st 0 else MH h w (w.length-1)
def exM (h:HM)(w:List Int):List (List Rat):=if MG h w=0 then [] else (List.range h.st).map λi=>moveRow h w (w.length-1) i
def exO (h:HM)(w:List Int):List (List Rat):=if MG h w=0 then [] else (List.range h.st).map λi=>Rh h w w.length i
structure Span where
 lo:Rat
 len:Rat
def Span.part (s:Span)(ch:List Rat)(k:Nat):Span:=⟨(ch.take k).foldl (λa p=>a+s.len*p) s.lo,s.len*ch.getD k 0⟩
def Span.inside (s t:Span):Prop:=t.lo<=s.lo/\s.lo+s.len<=t.lo+t.len
instance (s t:Span):Decidable (s.inside t):=inferInstanceAs (Decidable (_/\_))
def Span.one:Span:=⟨0,1⟩
def bm6 (read s:Span)(ch:List Rat)(k:Nat):Prop:=0<ch.getD k 0/\read.inside (s.part ch k)
instance (read s:Span) (ch:List Rat) (k:Nat):Decidable (bm6 read s ch k):=inferInstanceAs (Decidable (_/\_))
structure Rd where
 used:Nat
 read:Span
def Rd.step (bits:List Int)(r:Rd):Rd:=⟨r.used+1,⟨if bits.getD r.used 0=1 then r.read.lo+r.read.len*(1 / 2) else r.read.lo,r.read.len*(1 / 2)⟩⟩
def HM.next (h:HM):Option Nat->List Rat
 | none=>h.ini++[h.empty]
 | some i=>h.trans.getD i []++[h.stop.getD i 0]
inductive aA6 where
 | err (e:Int)
 | run (states word:List Int) (used:Nat)
def ai0 (s:Span)(l:List Rat):Rat:=l.foldl (λa p=>a+s.len*p) s.lo
theorem TS {B c:Nat}{q:Rat}(hq:sz q<=c):∀ (l:List Rat) (a:Rat),Small B l->sz (l.foldl (λa p=>a+q*p) a)<=sz a+l.length*(c+B+1)
 | [],a,_=>by simp
 | x::l,a,h=>by
  rw[List.foldl_cons,List.length_cons,Nat.add_mul];have h1:=TS hq l (a+q*x) λy hy=>h y (List.mem_cons_of_mem _ hy);have h2:=Bd a (q*x);have h3:=mD q x;have h4:=h x uZ;omega
theorem Zl {B c:Nat}{s:Span}{l:List Rat}(hq:sz s.len<=c)(h:Small B l):sz (ai0 s l)<=sz s.lo+l.length*(c+B+1):=TS hq l s.lo h
structure Wu (t:Nat) (s:Span):Prop where
 lo:sz s.lo<=1+t*40000000
 len:sz s.len<=1+t*1024
theorem Wu.part {t:Nat}{s:Span}{l:List Rat}(h:Wu t s)(ht:t<=600)(hl:Small 1024 l)(hn:l.length<=40)(k:Nat)(hk:k<l.length):Wu (t+1) (s.part l k):=by
 have h1:=Zl (B:=1024) (s:=s) (l:=l.take k) h.len (hl.take k);have h2:(l.take k).length<=40:=by rw[List.length_take];omega
 have h3:=mD s.len (l.getD k 0);have h4:=hl.get (by decide) k
 have h5:=h.lo;have h6:=h.len;have h7:(l.take k).length*(1+t*1024+1024+1)<=40*(1+600*1024+1024+1):=Nat.mul_le_mul h2 (by omega)
 refine⟨?_,?_⟩
 .show sz (ai0 s (l.take k))<=_
  omega
 .show sz (s.len*l.getD k 0)<=_
  omega
structure aP5 (bits:List Int) (r:Rd):Prop where
 used:r.used<=bits.length
 bits:bits.length<=2000
 lo:sz r.read.lo<=1+3000*r.used
 len:sz r.read.len<=1+r.used
theorem aA7:((1:Int):Rat) / ((2:Int):Rat)=1 / 2:=by rw[show ((1:Int):Rat)=1 from rfl,show ((2:Int):Rat)=2 from rfl]
theorem aA8:sz (1 / 2)<=1:=by rw[<- aA7];exact aO6 (by decide) (by decide) (by decide)
theorem aP5.step {bits:List Int}{r:Rd}(h:aP5 bits r)(hu:r.used<bits.length):aP5 bits (r.step bits):=by
 have h1:=h.lo;have h2:=h.len;have h3:=h.bits;have h4:=mD r.read.len (1 / 2);have h5:=aA8;have h6:=Bd r.read.lo (r.read.len*(1 / 2));generalize sz (1 / 2)=a5 at h4 h5;refine⟨hu,h3,?_,?_⟩
 .rw[show (r.step bits).used=r.used+1 from rfl,show (r.step bits).read.lo=(if bits.getD r.used 0=1 then r.read.lo+r.read.len*(1 / 2) else r.read.lo) from rfl]
  generalize r.read.lo+r.read.len*(1 / 2)=x6 at h6 ⊢;generalize r.read.len*(1 / 2)=x4 at h4 h6
  split <;> omega
 .rw[show (r.step bits).used=r.used+1 from rfl,show (r.step bits).read.len=r.read.len*(1 / 2) from rfl]
  omega
def a97:List Int->List Int->Int
 | x::xs,y::ys=>if x<y then -1 else if y<x then 1 else a97 xs ys
 | _,_=>0
def Eo (a b:List Int):Int:=if a.length≠b.length then (if a.length<b.length then -1 else 1) else a97 a b
deriving instance DecidableEq for aA6

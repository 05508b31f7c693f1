/-
  M, chapter 40, part 3: a drawing reckoned.
-/
import Derived.Test.YtnjoncgnjdkaoaaGreatDoorKRefC
set_option linter.unusedVariables false
set_option linter.unusedSimpArgs false
namespace Go.Proofs.YtnjoncgnjdkaoaaGreatDoor
open Go Go.AL
theorem Oh {x y:Rat}(hx:sz x<=68719476736)(hy:sz y<=68719476736):aj P F.oO [vQ x,vQ y] (vQ (x+y)):=by
 have h:=oO (x:=fP x) (y:=fP y) (jo (by omega)) (jo (by omega))
 rw[kz,kz] at h;exact h
theorem wV {x y:Rat}(hx:sz x<=68719476736)(hy:sz y<=68719476736):aj P F.oL [vQ x,vQ y] (vQ (x*y)):=by
 have h:=oL (x:=fP x) (y:=fP y) (jo (by omega)) (jo (by omega))
 rw[kz,kz] at h;exact h
theorem qF {x:Rat}(hx:sz x<=68719476736):aj P F.kU [vQ x] (.d (dI (Iz x))):=by
 have h:=kU (x:=fP x) (jo (by omega))
 rw[kz] at h;exact h
theorem He {x y:Rat}(hx:sz x<=68719476736)(hy:sz y<=68719476736):aj P F.jq [vQ x,vQ y] (.d (dI (YU x y))):=by
 have h:=jq (x:=fP x) (y:=fP y) (DW hx) (DW hy);rw[kz,kz] at h;exact h
theorem xK {x:Rat}(hx:sz x<=274877906944):aj P F.jF [vQ x] (.d (dB true)):=by
 have h:=jF (r:=fP x) (jo hx);rw[KY] at h;exact h
theorem D8 {n d:Int}(hn:-9223372036854775808<=n/\n<=9223372036854775807)(hd:-9223372036854775808<=d/\d<=9223372036854775807)(h0:d≠0) :
  aj P F.nD [.d (dI n),.d (dI d)] (.jE [vQ ((n:Rat) / (d:Rat)),.d (dI 0)]):=nD hn hd h0
theorem q11:((1:Int):Rat) / ((1:Int):Rat)=1:=by show (1:Rat) / 1=1;grind
theorem z0K:sz 0<=68719476736:=by rw[fK];decide
end Go.Proofs.YtnjoncgnjdkaoaaGreatDoor
namespace Go.AL
open Go Go.BigFrame
def aW0 (h:HM)(fr:Int)(i:Nat):Rat:=if 0<=fr then (h.trans.getD fr.toNat []).getD i 0 else h.ini.getD i 0
def ag8 (h:HM)(fr:Int)(x:Nat)(rest:List Rat)(i:Nat):Rat:=aW0 h fr i*(h.emit.getD i []).getD x 0*rest.getD i 0
def QX (h:HM)(fr:Int)(x:Nat)(rest:List Rat):Nat->Rat × Nat
 | 0=>(0,0)
 | i+1=>if (QX h fr x rest i).1<ag8 h fr x rest i then (ag8 h fr x rest i,i) else QX h fr x rest i
def FB (w:List Int)(t:Nat):Nat:=(w.getD t 0).toNat-1
def LP (h:HM)(w:List Int):Prop:=w.length<=256/\∀ x,x ∈ w->1<=x/\x<=h.sym
theorem LP.get {h:HM}{w:List Int}(k:LP h w){t:Nat}(ht:t<w.length):1<=w.getD t 0/\w.getD t 0<=h.sym:=k.2 _ (getD_mem ht 0)
theorem LP.FB {h:HM}{w:List Int}(k:LP h w){t:Nat}(ht:t<w.length):Go.AL.FB w t<h.sym/\w.getD t 0=((Go.AL.FB w t+1:Nat):Int):=by
 have:=k.get ht;unfold Go.AL.FB;omega
theorem aK {α:Type}{n k:Nat}(f:Nat->α)(d:α)(hk:k<n):((List.range n).map f).getD k d=f k:=by
 rw[gI,List.getElem?_map,List.getElem?_range hk];rfl
def vg {α:Type}(d:α)(g:Nat->α)(n i:Nat):List α:=(List.range n).map λj=>if j<i then g j else d
theorem ES {α:Type}(d:α)(g:Nat->α)(n i:Nat):(vg d g n i).length=n:=by simp[vg]
theorem F8 {α:Type}(d:α)(g:Nat->α)(n:Nat):vg d g n 0=List.replicate n d:=by
 refine List.ext_getElem (by simp[vg]) λk h1 h2=>?_
 simp[vg]
theorem ET {α:Type}{d:α}{g:Nat->α}{n i:Nat}(hi:i<n):(vg d g n i).set i (g i)=vg d g n (i+1):=by
 refine List.ext_getElem (by simp[vg]) λk h1 h2=>?_
 rw[List.getElem_set];simp only[vg,List.getElem_map,List.getElem_range];by_cases he:i=k
 .subst he;rw[if_pos rfl,if_pos (by omega)]
 .rw[if_neg he];by_cases h3:k<i
  .rw[if_pos h3,if_pos (by omega)]
  .rw[if_neg h3,if_neg (by omega)]
theorem O5 {α:Type}(d:α)(g:Nat->α)(n:Nat):vg d g n n=(List.range n).map g:=by
 refine List.map_congr_left λj hj=>?_;rw[if_pos (List.mem_range.1 hj)]
def aW (f:Nat->Rat):Nat->Rat
 | 0=>0
 | n+1=>aW f n+f n
def trQ (h:HM)(i j:Nat):Rat:=(h.trans.getD i []).getD j 0
def emQ (h:HM)(i x:Nat):Rat:=(h.emit.getD i []).getD x 0
def ag9 (h:HM)(w:List Int)(prev:List Rat)(t j:Nat):Nat->Rat:=aW λi=>prev.getD i 0*trQ h i j
def D9 (h:HM)(w:List Int):Nat->List Rat
 | 0=>(List.range h.st).map λj=>h.ini.getD j 0*emQ h j (FB w 0)
 | t+1=>(List.range h.st).map λj=>ag9 h w (D9 h w t) t j h.st*emQ h j (FB w (t+1))
def ay2 (h:HM)(w:List Int)(next:List Rat)(t i:Nat):Nat->Rat:=aW λj=>trQ h i j*(emQ h j (FB w (t+1))*next.getD j 0)
def LQ (h:HM)(w:List Int):Nat->List Rat
 | 0=>(List.range h.st).map λi=>h.stop.getD i 0
 | d+1=>(List.range h.st).map λi=>ay2 h w (LQ h w d) (w.length-1-(d+1)) i h.st
def ay3 (h:HM)(row:List Rat):Nat->Rat:=aW λi=>row.getD i 0*h.stop.getD i 0
def LU (h:HM)(w:List Int):Rat:=if w.length=0 then h.empty else ay3 h (D9 h w (w.length-1)) h.st
def vk (h:HM)(w:List Int)(t i:Nat):Rat:=(D9 h w t).getD i 0*(LQ h w (w.length-1-t)).getD i 0 / LU h w
def LV (h:HM)(w:List Int)(t:Nat):List Rat:=(List.range h.st).map λi=>vk h w t i
theorem LW (x y:Rat):sz (x / y)<=sz x+sz y:=by
 by_cases h0:y=0
 .rw[h0,Rat.div_def,Rat.inv_zero,Rat.mul_zero,fK];have:=fK;omega
 .have hy:y.num.natAbs≠0:=by
   intro e;have:y.num=0:=by omega
   exact h0 (Rat.num_eq_zero.1 this)
  have hx:=lT x;have hyq:=lT y;have hd:=VN (s:=decide (x.num<0)) (t:=decide (y.num<0)) (a:=x.num.natAbs) (b:=y.num.natAbs) (d1:=x.den) (d2:=y.den) x.den_nz y.den_nz hy;rw[hx,hyq] at hd;rw[hd];have l1:=fQ x.num.natAbs y.den;have l2:=fQ x.den y.num.natAbs;have a1:=jT x;have a2:=jU x;have a3:=jT y;have a4:=jU y;exact OM (Nat.mul_ne_zero x.den_nz hy) (by omega) (by omega)
structure Oi (h:HM) (w:List Int):Prop where
 st:h.st<=4
 len:w.length<=6
structure bl7 (h:HM) (w:List Int):Prop where
 empty:sz h.empty<=68719476736
 ini:∀ i,sz (h.ini.getD i 0)<=68719476736
 em:∀ i x,sz (emQ h i x)<=68719476736
 tr:∀ i j,sz (trQ h i j)<=68719476736
 stop:∀ i,sz (h.stop.getD i 0)<=68719476736
 fwd:∀ t,t<w.length->∀ i,sz ((D9 h w t).getD i 0)<=68719476736
 pre:∀ t j n,t<w.length->n<=h.st->sz (ag9 h w (D9 h w t) t j n)<=68719476736
 bf5:∀ t i j,t<w.length->sz ((D9 h w t).getD i 0*trQ h i j)<=68719476736
 lik:∀ t n,t<w.length->n<=h.st->sz (ay3 h (D9 h w t) n)<=68719476736
 bq7:∀ t i,t<w.length->sz ((D9 h w t).getD i 0*h.stop.getD i 0)<=68719476736
theorem TG {l:List Rat}{n:Nat}(h:l.length=n):vg 0 (λj=>l.getD j 0) n n=l:=by
 rw[O5];refine xP (by rw[h];simp) 0 λi hi=>?_
 rw[dD,List.length_range] at hi;exact aK _ _ hi
theorem XK {h:HM}{w:List Int}{t j:Nat}(ht:0<t)(hj:j<h.st):(D9 h w t).getD j 0=ag9 h w (D9 h w (t-1)) (t-1) j h.st*emQ h j (FB w t):=by
 obtain⟨u,rfl⟩:∃ u,t=u+1:=⟨t-1,by omega⟩
 exact aK _ _ hj
theorem ah0 {h:HM}{w:List Int}{i:Nat}(hi:i<h.st):(LQ h w 0).getD i 0=h.stop.getD i 0:=aK _ _ hi
theorem XL {h:HM}{w:List Int}{d a i:Nat}(hd:0<d)(ha:a=w.length-1-d)(hi:i<h.st):(LQ h w d).getD i 0=ay2 h w (LQ h w (d-1)) a i h.st:=by
 obtain⟨u,rfl⟩:∃ u,d=u+1:=⟨d-1,by omega⟩
 subst ha;exact aK _ _ hi
def aH4 (h:HM)(w:List Int):List (List Rat):=if LU h w=0 then [] else (List.range w.length).map (LV h w)
inductive bK (n:Nat) (B:List (List Rat)):(Nat->Rat)->Prop
 | zero {u:Nat->Rat} (h:∀ i,i<n->u i=0):bK n B u
 | add {u u':Nat->Rat} {b:List Rat} (c:Rat) (hb:b ∈ B) (hu:bK n B u) (h:∀ i,i<n->u' i=u i+c*b.getD i 0):bK n B u'
abbrev vf (l:List Rat):Nat->Rat:=λi=>l.getD i 0
section
variable {n:Nat}{B C:List (List Rat)}{u v:Nat->Rat}
theorem bK.congr (h:bK n B u)(e:∀ i,i<n->v i=u i):bK n B v:=by
 cases h with
 | zero h=>exact .zero λi hi=>(e i hi).trans (h i hi)
 | add c hb hu h=>exact .add c hb hu λi hi=>(e i hi).trans (h i hi)
theorem bK.mem {b:List Rat}(hb:b ∈ B):bK n B (vf b):=.add 1 hb (.zero (u:=λ_=>0) λ_ _=>rfl) λi _=>by rw[Rat.one_mul,Rat.zero_add]
theorem bK.mono (h:bK n B u)(hs:∀ b,b ∈ B->b ∈ C):bK n C u:=by
 induction h with
 | zero h=>exact .zero h
 | add c hb _ h ih=>exact .add c (hs _ hb) ih h
theorem bK.plus (h:bK n B u)(k:bK n B v):bK n B λi=>u i+v i:=by
 induction k with
 | zero k=>exact h.congr λi hi=>by rw[k i hi,Rat.add_zero]
 | add c hb _ k ih=>exact .add c hb ih λi hi=>by rw[k i hi,Rat.add_assoc]
theorem bK.smul (h:bK n B u)(a:Rat):bK n B λi=>a*u i:=by
 induction h with
 | zero h=>exact .zero λi hi=>by rw[h i hi,Rat.mul_zero]
 | add c hb _ h ih=>exact .add (a*c) hb ih λi hi=>by rw[h i hi,Rat.mul_add,Rat.mul_assoc]
theorem bK.trans (h:bK n B u)(k:∀ b,b ∈ B->bK n C (vf b)):bK n C u:=by
 induction h with
 | zero h=>exact .zero h
 | add c hb _ h ih=>exact (ih.plus ((k _ hb).smul c)).congr λi hi=>h i hi
structure Y7 (n m:Nat) (L:(Nat->Rat)->Nat->Rat):Prop where
 loc:∀ u v,(∀ i,i<n->u i=v i)->∀ j,j<m->L u j=L v j
 add:∀ u v c j,j<m->L (λi=>u i+c*v i) j=L u j+c*L v j
 zero:∀ j,j<m->L (λ_=>0) j=0
theorem bK.map {m:Nat}{L:(Nat->Rat)->Nat->Rat}(hL:Y7 n m L)(h:bK n B u)(k:∀ b,b ∈ B->bK m C (L (vf b))):bK m C (L u):=by
 induction h with
 | @zero u h=>exact .zero λj hj=>(hL.loc u (λ_=>0) h j hj).trans (hL.zero j hj)
 | @add u u' b c hb _ h ih =>
  refine (ih.plus ((k _ hb).smul c)).congr λj hj=>?_;rw[hL.loc u' (λi=>u i+c*vf b i) h j hj,hL.add u (vf b) c j hj]
theorem bK.kill {L:(Nat->Rat)->Nat->Rat}(hL:Y7 n 1 L)(h:bK n B u)(k:∀ b,b ∈ B->L (vf b) 0=0):L u 0=0:=by
 induction h with
 | @zero u h=>exact (hL.loc u (λ_=>0) h 0 (by decide)).trans (hL.zero 0 (by decide))
 | @add u u' b c hb _ h ih=>rw[hL.loc u' (λi=>u i+c*vf b i) h 0 (by decide),hL.add u (vf b) c 0 (by decide),ih,k _ hb,Rat.mul_zero,Rat.add_zero]
theorem bK.split {r:List Rat}(h:bK n (r::B) u):∃ (c:Rat) (w:Nat->Rat),bK n B w/\∀ i,i<n->u i=c*r.getD i 0+w i:=by
 induction h with
 | zero h=>exact⟨0,λ_=>0,.zero λ_ _=>rfl,λi hi=>by rw[h i hi,Rat.zero_mul,Rat.add_zero]⟩
 | @add u u' b a hb _ h ih =>
  obtain⟨c,w,h1,h2⟩:=ih;rcases List.mem_cons.1 hb with rfl|hb
  .exact⟨c+a,w,h1,λi hi=>by rw[h i hi,h2 i hi,Rat.add_mul,Rat.add_assoc,Rat.add_assoc,Rat.add_comm (w i)]⟩
  .exact⟨c,λi=>w i+a*b.getD i 0,.add a hb h1 λi _=>rfl,λi hi=>by rw[h i hi,h2 i hi,Rat.add_assoc]⟩
end
structure bJ where
 v:List Rat
 c:List Rat
 p:Nat
instance:Inhabited bJ:=⟨⟨[],[],0⟩⟩
def ou (w:List Rat)(r:bJ):Rat:=w.getD r.p 0 / r.v.getD r.p 0
def iQ (w:List Rat)(r:bJ):List Rat:=(List.range w.length).map λi=>w.getD i 0-ou w r*r.v.getD i 0
def aQ:List bJ->List Rat->List Rat
 | [],w=>w
 | r::rs,w=>aQ rs (iQ w r)
def lu (rs:List bJ):List (List Rat):=rs.map (·.v)
structure Ip (n:Nat) (rs:List bJ):Prop where
 piv:∀ r,r ∈ rs->r.p<n/\r.v.getD r.p 0≠0
 zero:rs.Pairwise λa b=>b.v.getD a.p 0=0
section
variable {n:Nat}{rs:List bJ}{r:bJ}{w:List Rat}
theorem oG:(iQ w r).length=w.length:=by simp[iQ]
theorem kE:∀ (rs:List bJ) (w:List Rat),(aQ rs w).length=w.length
 | [],_=>rfl
 | r::rs,w=>by rw[aQ,kE rs,oG]
theorem xu {i:Nat}(hi:i<w.length):(iQ w r).getD i 0=w.getD i 0-ou w r*r.v.getD i 0:=aK _ _ hi
theorem Hf (h0:ou w r=0):iQ w r=w:=by
 refine xP oG 0 λi hi=>?_;rw[oG] at hi;rw[xu hi,h0,Rat.zero_mul,Rat.sub_eq_add_neg,Rat.neg_zero,Rat.add_zero]
theorem TI (hp:r.p<w.length)(h0:r.v.getD r.p 0≠0):(iQ w r).getD r.p 0=0:=by
 rw[xu hp,ou,Rat.div_mul_cancel h0,Rat.sub_self]
theorem Bh:∀ (rs:List bJ) (w:List Rat),bK w.length (lu rs) λi=>w.getD i 0-(aQ rs w).getD i 0
 | [],w=>.zero λi _=>by rw[aQ,Rat.sub_self]
 | r::rs,w=>by
  have ih:=Bh rs (iQ w r);rw[oG] at ih;refine .add (b:=r.v) (ou w r) vC (ih.mono λb hb=>List.mem_cons_of_mem _ hb) λi hi=>?_;rw[xu hi,aQ];rw[Rat.sub_eq_add_neg,Rat.sub_eq_add_neg,Rat.sub_eq_add_neg,Rat.add_assoc,Rat.add_assoc,Rat.add_comm (-(ou w r*_)),Rat.add_assoc,Rat.add_neg_cancel,Rat.add_zero]
theorem O6:∀ {rs:List bJ} {w:List Rat} {p:Nat},p<w.length->w.getD p 0=0->(∀ r,r ∈ rs->r.v.getD p 0=0)->(aQ rs w).getD p 0=0
 | [],_,_,_,h,_=>h
 | r::rs,w,p,hp,h,hz=>by
  rw[aQ];refine O6 (by rw[oG];exact hp) ?_ λq hq=>hz q (List.mem_cons_of_mem _ hq)
  rw[xu hp,h,hz r vC,Rat.mul_zero,Rat.sub_self]
theorem Ip.tail (e:Ip n (r::rs)):Ip n rs:=⟨λq hq=>e.piv q (List.mem_cons_of_mem _ hq),(List.pairwise_cons.1 e.zero).2⟩
theorem LX:∀ {rs:List bJ} {w:List Rat},Ip n rs->w.length=n->∀ r,r ∈ rs->(aQ rs w).getD r.p 0=0
 | r :: rs, w, e, hw, q, hq => by
  rw[aQ];rcases List.mem_cons.1 hq with rfl|hq
  .obtain⟨p1,p2⟩:=e.piv q vC;exact O6 (by rw[oG,hw];exact p1) (TI (by rw[hw];exact p1) p2) (List.pairwise_cons.1 e.zero).1
  .exact LX e.tail (by rw[oG];exact hw) q hq
theorem Ip.indep:∀ {rs:List bJ} {u:Nat->Rat},Ip n rs->bK n (lu rs) u->(∀ r,r ∈ rs->u r.p=0)->∀ i,i<n->u i=0
 | [],u,_,h,_,i,hi=>by
  cases h with
  | zero h=>exact h i hi
  | add _ hb=>cases hb
 | r :: rs, u, e, h, hz, i, hi => by
  obtain⟨c,w,h1,h2⟩:=h.split
  obtain⟨p1,p2⟩:=e.piv r vC;have hw0:∀ {w:Nat->Rat},bK n (lu rs) w->w r.p=0:=λ{w} h=>by
   induction h with
   | zero h=>exact h _ p1
   | add c hb _ h ih =>
    obtain⟨q,hq,rfl⟩:=jY hb;rw[h _ p1,ih,(List.pairwise_cons.1 e.zero).1 q hq,Rat.mul_zero,Rat.add_zero]
  have hc:c=0:=by
   have:=h2 _ p1;rw[hz r vC,hw0 h1,Rat.add_zero] at this;rcases Rat.mul_eq_zero.1 this.symm with h|h
   .exact h
   .exact absurd h p2
  have h3:∀ j,j<n->u j=w j:=λj hj=>by rw[h2 j hj,hc,Rat.zero_mul,Rat.zero_add]
  rw[h3 i hi];exact Ip.indep e.tail h1 (λq hq=>by rw[<- h3 _ (e.piv q (List.mem_cons_of_mem _ hq)).1];exact hz q (List.mem_cons_of_mem _ hq)) i hi
def aW1 (w:List Rat):Prop:=∀ i,i<w.length->w.getD i 0=0
theorem ay4 (e:Ip n rs)(hw:w.length=n):aW1 (aQ rs w) ↔ bK n (lu rs) (vf w):=by
 have hs:=Bh rs w;rw[hw] at hs;constructor
 .intro h;refine hs.congr λi hi=>?_;rw[h i (by rw[kE,hw];exact hi),Rat.sub_eq_add_neg,Rat.neg_zero,Rat.add_zero]
 .intro h i hi;rw[kE,hw] at hi;refine Ip.indep e (u:=vf (aQ rs w)) ?_ (LX e hw) i hi;refine (h.plus (hs.smul (-1))).congr λj hj=>?_;show (aQ rs w).getD j 0=w.getD j 0 + -1*(w.getD j 0-(aQ rs w).getD j 0)
  rw[Rat.neg_mul,Rat.one_mul,Rat.neg_sub,Rat.sub_eq_add_neg,Rat.add_comm (w.getD j 0),Rat.add_assoc,Rat.neg_add_cancel,Rat.add_zero]
theorem Ip.grow (e:Ip n rs)(hw:w.length=n){p:Nat}(c:List Rat)(hp:p<n)(h0:(aQ rs w).getD p 0≠0):Ip n (rs++[⟨aQ rs w,c,p⟩]):=by
 refine⟨λr hr=>?_,List.pairwise_append.2 ⟨e.zero,List.pairwise_singleton ..,λa ha b hb=>?_⟩⟩
 .rcases rD hr with hr|hr
  .exact e.piv r hr
  .rw[kJ hr];exact⟨hp,h0⟩
 .rw[kJ hb];exact LX e hw a ha
theorem JC:∀ (n:Nat) (l:List Nat),l.Nodup->(∀ x,x ∈ l->x<n)->l.length<=n
 | 0,l,_,h=>by
  cases l with
  | nil=>exact Nat.le_refl _
  | cons x r=>exact absurd (h x vC) (Nat.not_lt_zero _)
 | n + 1, l, hn, h => by
  have h1:=JC n (l.erase n) (hn.erase n) λx hx=>by
   have a:=h x (List.mem_of_mem_erase hx);have b:x≠n:=λe=>by subst e;exact (List.Nodup.not_mem_erase hn) hx
   omega
  by_cases hm:n ∈ l
  .rw[List.length_erase_of_mem hm] at h1;omega
  .rw[List.erase_of_not_mem hm] at h1;omega
theorem Ip.len (e:Ip n rs):rs.length<=n:=by
 rw[<- dD (f:=bJ.p)];refine JC n _ (List.pairwise_map.2 ?_) λx hx=>?_
 .refine e.zero.imp_of_mem λ{a b} _ hb h k=>?_;rw[k] at h;exact (e.piv b hb).2 h
 .obtain⟨r,hr,rfl⟩:=jY hx;exact (e.piv r hr).1
end
def xiQ (h:HM)(w:List Int)(t i j:Nat):Rat:=(D9 h w t).getD i 0*trQ h i j*(emQ h j (FB w (t+1))*(LQ h w (w.length-1-(t+1))).getD j 0) / LU h w
def aH5 (h:HM)(w:List Int)(n i x:Nat):Rat:=aW (λt=>if FB w t=x then vk h w t i else 0) n
def LY (h:HM)(w:List Int)(n i j:Nat):Rat:=aW (λt=>xiQ h w t i j) n
def QY (h:HM)(w:List Int)(n i:Nat):List Rat:=(List.range h.sym).map λx=>aH5 h w n i x
def moveRow (h:HM)(w:List Int)(n i:Nat):List Rat:=(List.range h.st).map λj=>LY h w n i j
theorem LZ {C:Nat}{f:Nat->Rat}:∀ n,(∀ i,i<n->sz (f i)<=C)->sz (aW f n)<=1+n*(C+1)
 | 0,_=>by show sz 0<=_;rw[fK];omega
 | n+1,hf=>by
  rw[aW,Nat.add_mul];have h1:=LZ n λi hi=>hf i (by omega)
  have h2:=AB (aW f n) (f n);have h3:=hf n (by omega)
  omega
def exS (h:HM)(w:List Int):List Rat:=if LU h w=0 then [] else if w.length=0 then List.replicate h.st 0 else LV h w 0
def exE (h:HM)(w:List Int):List Rat:=if LU h w=0 then [] else if w.length=0 then List.replicate h.st 0 else LV h w (w.length-1)
def exM (h:HM)(w:List Int):List (List Rat):=if LU h w=0 then [] else (List.range h.st).map λi=>moveRow h w (w.length-1) i
def exO (h:HM)(w:List Int):List (List Rat):=if LU h w=0 then [] else (List.range h.st).map λi=>QY h w w.length i
structure Span where
 lo:Rat
 len:Rat
def Span.part (s:Span)(ch:List Rat)(k:Nat):Span:=⟨(ch.take k).foldl (λa p=>a+s.len*p) s.lo,s.len*ch.getD k 0⟩
def Span.inside (s t:Span):Prop:=t.lo<=s.lo/\s.lo+s.len<=t.lo+t.len
instance (s t:Span):Decidable (s.inside t):=inferInstanceAs (Decidable (_/\_))
def Span.one:Span:=⟨0,1⟩
def bf6 (read s:Span)(ch:List Rat)(k:Nat):Prop:=0<ch.getD k 0/\read.inside (s.part ch k)
instance (read s:Span) (ch:List Rat) (k:Nat):Decidable (bf6 read s ch k):=inferInstanceAs (Decidable (_/\_))
structure Rd where
 used:Nat
 read:Span
def Rd.step (bits:List Int)(r:Rd):Rd:=⟨r.used+1,⟨if bits.getD r.used 0=1 then r.read.lo+r.read.len*(1 / 2) else r.read.lo,r.read.len*(1 / 2)⟩⟩
def HM.next (h:HM):Option Nat->List Rat
 | none=>h.ini++[h.empty]
 | some i=>h.trans.getD i []++[h.stop.getD i 0]
inductive ay5 where
 | err (e:Int)
 | run (states word:List Int) (used:Nat)
def ah1 (s:Span)(l:List Rat):Rat:=l.foldl (λa p=>a+s.len*p) s.lo
theorem TJ {B c:Nat}{q:Rat}(hq:sz q<=c):∀ (l:List Rat) (a:Rat),Small B l->sz (l.foldl (λa p=>a+q*p) a)<=sz a+l.length*(c+B+1)
 | [],a,_=>by simp
 | x::l,a,h=>by
  rw[List.foldl_cons,List.length_cons,Nat.add_mul];have h1:=TJ hq l (a+q*x) λy hy=>h y (List.mem_cons_of_mem _ hy);have h2:=AB a (q*x);have h3:=lU q x;have h4:=h x vC;omega
theorem Y8 {B c:Nat}{s:Span}{l:List Rat}(hq:sz s.len<=c)(h:Small B l):sz (ah1 s l)<=sz s.lo+l.length*(c+B+1):=TJ hq l s.lo h
structure V6 (t:Nat) (s:Span):Prop where
 lo:sz s.lo<=1+t*40000000
 len:sz s.len<=1+t*1024
theorem V6.part {t:Nat}{s:Span}{l:List Rat}(h:V6 t s)(ht:t<=600)(hl:Small 1024 l)(hn:l.length<=40)(k:Nat)(hk:k<l.length):V6 (t+1) (s.part l k):=by
 have h1:=Y8 (B:=1024) (s:=s) (l:=l.take k) h.len (hl.take k);have h2:(l.take k).length<=40:=by rw[List.length_take];omega
 have h3:=lU s.len (l.getD k 0);have h4:=hl.get (by decide) k
 have h5:=h.lo;have h6:=h.len;have h7:(l.take k).length*(1+t*1024+1024+1)<=40*(1+600*1024+1024+1):=Nat.mul_le_mul h2 (by omega)
 refine⟨?_,?_⟩
 .show sz (ah1 s (l.take k))<=_
  omega
 .show sz (s.len*l.getD k 0)<=_
  omega
structure aM0 (bits:List Int) (r:Rd):Prop where
 used:r.used<=bits.length
 bits:bits.length<=2000
 lo:sz r.read.lo<=1+3000*r.used
 len:sz r.read.len<=1+r.used
theorem ay6:((1:Int):Rat) / ((2:Int):Rat)=1 / 2:=by rw[show ((1:Int):Rat)=1 from rfl,show ((2:Int):Rat)=2 from rfl]
theorem ay7:sz (1 / 2)<=1:=by rw[<- ay6];exact aL0 (by decide) (by decide) (by decide)
theorem aM0.step {bits:List Int}{r:Rd}(h:aM0 bits r)(hu:r.used<bits.length):aM0 bits (r.step bits):=by
 have h1:=h.lo;have h2:=h.len;have h3:=h.bits;have h4:=lU r.read.len (1 / 2);have h5:=ay7;have h6:=AB r.read.lo (r.read.len*(1 / 2));generalize sz (1 / 2)=a5 at h4 h5;refine⟨hu,h3,?_,?_⟩
 .rw[show (r.step bits).used=r.used+1 from rfl,show (r.step bits).read.lo=(if bits.getD r.used 0=1 then r.read.lo+r.read.len*(1 / 2) else r.read.lo) from rfl]
  generalize r.read.lo+r.read.len*(1 / 2)=x6 at h6 ⊢;generalize r.read.len*(1 / 2)=x4 at h4 h6
  split <;> omega
 .rw[show (r.step bits).used=r.used+1 from rfl,show (r.step bits).read.len=r.read.len*(1 / 2) from rfl]
  omega
def aW3:List Int->List Int->Int
 | x::xs,y::ys=>if x<y then -1 else if y<x then 1 else aW3 xs ys
 | _,_=>0
def Ea (a b:List Int):Int:=if a.length≠b.length then (if a.length<b.length then -1 else 1) else aW3 a b
deriving instance DecidableEq for ay5

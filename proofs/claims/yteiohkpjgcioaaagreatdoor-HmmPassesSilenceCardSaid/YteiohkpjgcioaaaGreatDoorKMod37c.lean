/-
  M, chapter 37: the end of a word; when states are committed.
-/
import Derived.Test.YteiohkpjgcioaaaGreatDoorKMod34
set_option linter.unusedVariables false
set_option linter.unusedSimpArgs false
namespace Go.AL
open Go Go.BigFrame
inductive fP (n:Nat) (B:List (List Rat)):(Nat->Rat)->Prop
 | zero {u:Nat->Rat} (h:∀ i,i<n->u i=0):fP n B u
 | add {u u':Nat->Rat} {b:List Rat} (c:Rat) (hb:b ∈ B) (hu:fP n B u) (h:∀ i,i<n->u' i=u i+c*b.getD i 0):fP n B u'
abbrev vf (l:List Rat):Nat->Rat:=λi=>l.getD i 0
section
variable {n:Nat}{B C:List (List Rat)}{u v:Nat->Rat}
theorem fP.congr (h:fP n B u)(e:∀ i,i<n->v i=u i):fP n B v:=by
 cases h with
 | zero h=>exact .zero λi hi=>(e i hi).trans (h i hi)
 | add c hb hu h=>exact .add c hb hu λi hi=>(e i hi).trans (h i hi)
theorem fP.mem {b:List Rat}(hb:b ∈ B):fP n B (vf b):=.add 1 hb (.zero (u:=λ_=>0) λ_ _=>rfl) λi _=>by rw[Rat.one_mul,Rat.zero_add]
theorem fP.mono (h:fP n B u)(hs:∀ b,b ∈ B->b ∈ C):fP n C u:=by
 induction h with
 | zero h=>exact .zero h
 | add c hb _ h ih=>exact .add c (hs _ hb) ih h
theorem fP.plus (h:fP n B u)(k:fP n B v):fP n B λi=>u i+v i:=by
 induction k with
 | zero k=>exact h.congr λi hi=>by rw[k i hi,Rat.add_zero]
 | add c hb _ k ih=>exact .add c hb ih λi hi=>by rw[k i hi,Rat.add_assoc]
theorem fP.smul (h:fP n B u)(a:Rat):fP n B λi=>a*u i:=by
 induction h with
 | zero h=>exact .zero λi hi=>by rw[h i hi,Rat.mul_zero]
 | add c hb _ h ih=>exact .add (a*c) hb ih λi hi=>by rw[h i hi,Rat.mul_add,Rat.mul_assoc]
theorem fP.trans (h:fP n B u)(k:∀ b,b ∈ B->fP n C (vf b)):fP n C u:=by
 induction h with
 | zero h=>exact .zero h
 | add c hb _ h ih=>exact (ih.plus ((k _ hb).smul c)).congr λi hi=>h i hi
structure aE1 (n m:Nat) (L:(Nat->Rat)->Nat->Rat):Prop where
 loc:∀ u v,(∀ i,i<n->u i=v i)->∀ j,j<m->L u j=L v j
 add:∀ u v c j,j<m->L (λi=>u i+c*v i) j=L u j+c*L v j
 zero:∀ j,j<m->L (λ_=>0) j=0
theorem fP.map {m:Nat}{L:(Nat->Rat)->Nat->Rat}(hL:aE1 n m L)(h:fP n B u)(k:∀ b,b ∈ B->fP m C (L (vf b))):fP m C (L u):=by
 induction h with
 | @zero u h=>exact .zero λj hj=>(hL.loc u (λ_=>0) h j hj).trans (hL.zero j hj)
 | @add u u' b c hb _ h ih =>
  refine (ih.plus ((k _ hb).smul c)).congr λj hj=>?_;rw[hL.loc u' (λi=>u i+c*vf b i) h j hj,hL.add u (vf b) c j hj]
theorem fP.kill {L:(Nat->Rat)->Nat->Rat}(hL:aE1 n 1 L)(h:fP n B u)(k:∀ b,b ∈ B->L (vf b) 0=0):L u 0=0:=by
 induction h with
 | @zero u h=>exact (hL.loc u (λ_=>0) h 0 (by decide)).trans (hL.zero 0 (by decide))
 | @add u u' b c hb _ h ih=>rw[hL.loc u' (λi=>u i+c*vf b i) h 0 (by decide),hL.add u (vf b) c 0 (by decide),ih,k _ hb,Rat.mul_zero,Rat.add_zero]
theorem fP.split {r:List Rat}(h:fP n (r::B) u):∃ (c:Rat) (w:Nat->Rat),fP n B w/\∀ i,i<n->u i=c*r.getD i 0+w i:=by
 induction h with
 | zero h=>exact⟨0,λ_=>0,.zero λ_ _=>rfl,λi hi=>by rw[h i hi,Rat.zero_mul,Rat.add_zero]⟩
 | @add u u' b a hb _ h ih =>
  obtain⟨c,w,h1,h2⟩:=ih;rcases List.mem_cons.1 hb with rfl|hb
  .exact⟨c+a,w,h1,λi hi=>by rw[h i hi,h2 i hi,Rat.add_mul,Rat.add_assoc,Rat.add_assoc,Rat.add_comm (w i)]⟩
  .exact⟨c,λi=>w i+a*b.getD i 0,.add a hb h1 λi _=>rfl,λi hi=>by rw[h i hi,h2 i hi,Rat.add_assoc]⟩
end
structure kV where
 v:List Rat
 c:List Rat
 p:Nat
instance:Inhabited kV:=⟨⟨[],[],0⟩⟩
def Fh (w:List Rat)(r:kV):Rat:=w.getD r.p 0 / r.v.getD r.p 0
def wC (w:List Rat)(r:kV):List Rat:=(List.range w.length).map λi=>w.getD i 0-Fh w r*r.v.getD i 0
def nK:List kV->List Rat->List Rat
 | [],w=>w
 | r::rs,w=>nK rs (wC w r)
def Aj (rs:List kV):List (List Rat):=rs.map (·.v)
structure Uc (n:Nat) (rs:List kV):Prop where
 piv:∀ r,r ∈ rs->r.p<n/\r.v.getD r.p 0≠0
 zero:rs.Pairwise λa b=>b.v.getD a.p 0=0
section
variable {n:Nat}{rs:List kV}{r:kV}{w:List Rat}
theorem yx:(wC w r).length=w.length:=by simp[wC]
theorem CB:∀ (rs:List kV) (w:List Rat),(nK rs w).length=w.length
 | [],_=>rfl
 | r::rs,w=>by rw[nK,CB rs,yx]
theorem Fj {i:Nat}(hi:i<w.length):(wC w r).getD i 0=w.getD i 0-Fh w r*r.v.getD i 0:=dM _ _ hi
theorem U4 (hp:r.p<w.length)(h0:r.v.getD r.p 0≠0):(wC w r).getD r.p 0=0:=by
 rw[Fj hp,Fh,Rat.div_mul_cancel h0,Rat.sub_self]
theorem Gp:∀ (rs:List kV) (w:List Rat),fP w.length (Aj rs) λi=>w.getD i 0-(nK rs w).getD i 0
 | [],w=>.zero λi _=>by rw[nK,Rat.sub_self]
 | r::rs,w=>by
  have ih:=Gp rs (wC w r);rw[yx] at ih;refine .add (b:=r.v) (Fh w r) yD (ih.mono λb hb=>List.mem_cons_of_mem _ hb) λi hi=>?_;rw[Fj hi,nK];rw[Rat.sub_eq_add_neg,Rat.sub_eq_add_neg,Rat.sub_eq_add_neg,Rat.add_assoc,Rat.add_assoc,Rat.add_comm (-(Fh w r*_)),Rat.add_assoc,Rat.add_neg_cancel,Rat.add_zero]
theorem Qv:∀ {rs:List kV} {w:List Rat} {p:Nat},p<w.length->w.getD p 0=0->(∀ r,r ∈ rs->r.v.getD p 0=0)->(nK rs w).getD p 0=0
 | [],_,_,_,h,_=>h
 | r::rs,w,p,hp,h,hz=>by
  rw[nK];refine Qv (by rw[yx];exact hp) ?_ λq hq=>hz q (List.mem_cons_of_mem _ hq)
  rw[Fj hp,h,hz r yD,Rat.mul_zero,Rat.sub_self]
theorem Uc.tail (e:Uc n (r::rs)):Uc n rs:=⟨λq hq=>e.piv q (List.mem_cons_of_mem _ hq),(List.pairwise_cons.1 e.zero).2⟩
theorem N7:∀ {rs:List kV} {w:List Rat},Uc n rs->w.length=n->∀ r,r ∈ rs->(nK rs w).getD r.p 0=0
 | r :: rs, w, e, hw, q, hq => by
  rw[nK];rcases List.mem_cons.1 hq with rfl|hq
  .obtain⟨p1,p2⟩:=e.piv q yD;exact Qv (by rw[yx,hw];exact p1) (U4 (by rw[hw];exact p1) p2) (List.pairwise_cons.1 e.zero).1
  .exact N7 e.tail (by rw[yx];exact hw) q hq
theorem Uc.indep:∀ {rs:List kV} {u:Nat->Rat},Uc n rs->fP n (Aj rs) u->(∀ r,r ∈ rs->u r.p=0)->∀ i,i<n->u i=0
 | [],u,_,h,_,i,hi=>by
  cases h with
  | zero h=>exact h i hi
  | add _ hb=>cases hb
 | r :: rs, u, e, h, hz, i, hi => by
  obtain⟨c,w,h1,h2⟩:=h.split
  obtain⟨p1,p2⟩:=e.piv r yD;have hw0:∀ {w:Nat->Rat},fP n (Aj rs) w->w r.p=0:=λ{w} h=>by
   induction h with
   | zero h=>exact h _ p1
   | add c hb _ h ih =>
    obtain⟨q,hq,rfl⟩:=Az hb;rw[h _ p1,ih,(List.pairwise_cons.1 e.zero).1 q hq,Rat.mul_zero,Rat.add_zero]
  have hc:c=0:=by
   have:=h2 _ p1;rw[hz r yD,hw0 h1,Rat.add_zero] at this;rcases Rat.mul_eq_zero.1 this.symm with h|h
   .exact h
   .exact absurd h p2
  have h3:∀ j,j<n->u j=w j:=λj hj=>by rw[h2 j hj,hc,Rat.zero_mul,Rat.zero_add]
  rw[h3 i hi];exact Uc.indep e.tail h1 (λq hq=>by rw[<- h3 _ (e.piv q (List.mem_cons_of_mem _ hq)).1];exact hz q (List.mem_cons_of_mem _ hq)) i hi
def a08 (w:List Rat):Prop:=∀ i,i<w.length->w.getD i 0=0
theorem aE2 (e:Uc n rs)(hw:w.length=n):a08 (nK rs w) ↔ fP n (Aj rs) (vf w):=by
 have hs:=Gp rs w;rw[hw] at hs;constructor
 .intro h;refine hs.congr λi hi=>?_;rw[h i (by rw[CB,hw];exact hi),Rat.sub_eq_add_neg,Rat.neg_zero,Rat.add_zero]
 .intro h i hi;rw[CB,hw] at hi;refine Uc.indep e (u:=vf (nK rs w)) ?_ (N7 e hw) i hi;refine (h.plus (hs.smul (-1))).congr λj hj=>?_;show (nK rs w).getD j 0=w.getD j 0 + -1*(w.getD j 0-(nK rs w).getD j 0)
  rw[Rat.neg_mul,Rat.one_mul,Rat.neg_sub,Rat.sub_eq_add_neg,Rat.add_comm (w.getD j 0),Rat.add_assoc,Rat.neg_add_cancel,Rat.add_zero]
theorem Uc.grow (e:Uc n rs)(hw:w.length=n){p:Nat}(c:List Rat)(hp:p<n)(h0:(nK rs w).getD p 0≠0):Uc n (rs++[⟨nK rs w,c,p⟩]):=by
 refine⟨λr hr=>?_,List.pairwise_append.2 ⟨e.zero,List.pairwise_singleton ..,λa ha b hb=>?_⟩⟩
 .rcases BO hr with hr|hr
  .exact e.piv r hr
  .rw[qm hr];exact⟨hp,h0⟩
 .rw[qm hb];exact N7 e hw a ha
theorem LK:∀ (n:Nat) (l:List Nat),l.Nodup->(∀ x,x ∈ l->x<n)->l.length<=n
 | 0,l,_,h=>by
  cases l with
  | nil=>exact Nat.le_refl _
  | cons x r=>exact absurd (h x yD) (Nat.not_lt_zero _)
 | n + 1, l, hn, h => by
  have h1:=LK n (l.erase n) (hn.erase n) λx hx=>by
   have a:=h x (List.mem_of_mem_erase hx);have b:x≠n:=λe=>by subst e;exact (List.Nodup.not_mem_erase hn) hx
   omega
  by_cases hm:n ∈ l
  .rw[List.length_erase_of_mem hm] at h1;omega
  .rw[List.erase_of_not_mem hm] at h1;omega
theorem Uc.len (e:Uc n rs):rs.length<=n:=by
 rw[<- dF (f:=kV.p)];refine LK n _ (List.pairwise_map.2 ?_) λx hx=>?_
 .refine e.zero.imp_of_mem λ{a b} _ hb h k=>?_;rw[k] at h;exact (e.piv b hb).2 h
 .obtain⟨r,hr,rfl⟩:=Az hx;exact (e.piv r hr).1
end
def xiQ (h:HM)(w:List Int)(t i j:Nat):Rat:=(yw h w t).getD i 0*Hw h i j*(EN h j (BI w (t+1))*(aP9 h w (w.length-1-(t+1))).getD j 0) / BJ h w
def a09 (h:HM)(w:List Int)(n i x:Nat):Rat:=dw (λt=>if BI w t=x then NY h w t i else 0) n
def aL3 (h:HM)(w:List Int)(n i j:Nat):Rat:=dw (λt=>xiQ h w t i j) n
def SC (h:HM)(w:List Int)(n i:Nat):List Rat:=(List.range h.sym).map λx=>a09 h w n i x
def moveRow (h:HM)(w:List Int)(n i:Nat):List Rat:=(List.range h.st).map λj=>aL3 h w n i j
def exS (h:HM)(w:List Int):List Rat:=if BJ h w=0 then [] else if w.length=0 then List.replicate h.st 0 else NZ h w 0
def exE (h:HM)(w:List Int):List Rat:=if BJ h w=0 then [] else if w.length=0 then List.replicate h.st 0 else NZ h w (w.length-1)
def exM (h:HM)(w:List Int):List (List Rat):=if BJ h w=0 then [] else (List.range h.st).map λi=>moveRow h w (w.length-1) i
def exO (h:HM)(w:List Int):List (List Rat):=if BJ h w=0 then [] else (List.range h.st).map λi=>SC h w w.length i
structure Span where
 lo:Rat
 len:Rat
def Span.part (s:Span)(ch:List Rat)(k:Nat):Span:=⟨(ch.take k).foldl (λa p=>a+s.len*p) s.lo,s.len*ch.getD k 0⟩
def Span.inside (s t:Span):Prop:=t.lo<=s.lo/\s.lo+s.len<=t.lo+t.len
instance (s t:Span):Decidable (s.inside t):=inferInstanceAs (Decidable (_/\_))
def Span.one:Span:=⟨0,1⟩
def bi7 (read s:Span)(ch:List Rat)(k:Nat):Prop:=0<ch.getD k 0/\read.inside (s.part ch k)
instance (read s:Span) (ch:List Rat) (k:Nat):Decidable (bi7 read s ch k):=inferInstanceAs (Decidable (_/\_))
structure Rd where
 used:Nat
 read:Span
def Rd.step (bits:List Int)(r:Rd):Rd:=⟨r.used+1,⟨if bits.getD r.used 0=1 then r.read.lo+r.read.len*(1 / 2) else r.read.lo,r.read.len*(1 / 2)⟩⟩
def HM.next (h:HM):Option Nat->List Rat
 | none=>h.ini++[h.empty]
 | some i=>h.trans.getD i []++[h.stop.getD i 0]
inductive aE3 where
 | err (e:Int)
 | run (states word:List Int) (used:Nat)
def ao5 (s:Span)(l:List Rat):Rat:=l.foldl (λa p=>a+s.len*p) s.lo
theorem U5 {B c:Nat}{q:Rat}(hq:sz q<=c):∀ (l:List Rat) (a:Rat),Small B l->sz (l.foldl (λa p=>a+q*p) a)<=sz a+l.length*(c+B+1)
 | [],a,_=>by simp
 | x::l,a,h=>by
  rw[List.foldl_cons,List.length_cons,Nat.add_mul];have h1:=U5 hq l (a+q*x) λy hy=>h y (List.mem_cons_of_mem _ hy);have h2:=vz a (q*x);have h3:=jZ q x;have h4:=h x yD;omega
theorem ab8 {B c:Nat}{s:Span}{l:List Rat}(hq:sz s.len<=c)(h:Small B l):sz (ao5 s l)<=sz s.lo+l.length*(c+B+1):=U5 hq l s.lo h
structure XE (t:Nat) (s:Span):Prop where
 lo:sz s.lo<=1+t*40000000
 len:sz s.len<=1+t*1024
theorem XE.part {t:Nat}{s:Span}{l:List Rat}(h:XE t s)(ht:t<=600)(hl:Small 1024 l)(hn:l.length<=40)(k:Nat)(hk:k<l.length):XE (t+1) (s.part l k):=by
 have h1:=ab8 (B:=1024) (s:=s) (l:=l.take k) h.len (hl.take k);have h2:(l.take k).length<=40:=by rw[List.length_take];omega
 have h3:=jZ s.len (l.getD k 0);have h4:=hl.get (by decide) k
 have h5:=h.lo;have h6:=h.len;have h7:(l.take k).length*(1+t*1024+1024+1)<=40*(1+600*1024+1024+1):=Nat.mul_le_mul h2 (by omega)
 refine⟨?_,?_⟩
 .show sz (ao5 s (l.take k))<=_
  omega
 .show sz (s.len*l.getD k 0)<=_
  omega
structure aQ4 (bits:List Int) (r:Rd):Prop where
 used:r.used<=bits.length
 bits:bits.length<=2000
 lo:sz r.read.lo<=1+3000*r.used
 len:sz r.read.len<=1+r.used
theorem Y3:((1:Int):Rat) / ((2:Int):Rat)=1 / 2:=by rw[show ((1:Int):Rat)=1 from rfl,show ((2:Int):Rat)=2 from rfl]
theorem SE:sz (1 / 2)<=1:=by rw[<- Y3];exact an4 (by decide) (by decide) (by decide)
theorem aQ4.step {bits:List Int}{r:Rd}(h:aQ4 bits r)(hu:r.used<bits.length):aQ4 bits (r.step bits):=by
 have h1:=h.lo;have h2:=h.len;have h3:=h.bits;have h4:=jZ r.read.len (1 / 2);have h5:=SE;have h6:=vz r.read.lo (r.read.len*(1 / 2));generalize sz (1 / 2)=a5 at h4 h5;refine⟨hu,h3,?_,?_⟩
 .rw[show (r.step bits).used=r.used+1 from rfl,show (r.step bits).read.lo=(if bits.getD r.used 0=1 then r.read.lo+r.read.len*(1 / 2) else r.read.lo) from rfl]
  generalize r.read.lo+r.read.len*(1 / 2)=x6 at h6 ⊢;generalize r.read.len*(1 / 2)=x4 at h4 h6
  split <;> omega
 .rw[show (r.step bits).used=r.used+1 from rfl,show (r.step bits).read.len=r.read.len*(1 / 2) from rfl]
  omega
def U6:List Int->List Int->Int
 | x::xs,y::ys=>if x<y then -1 else if y<x then 1 else U6 xs ys
 | _,_=>0
def D9 (a b:List Int):Int:=if a.length≠b.length then (if a.length<b.length then -1 else 1) else U6 a b
theorem Ko {a b:List Int}{i:Nat}(ha:i<a.length)(hb:i<b.length):U6 (a.drop i) (b.drop i)=if a.getD i 0<b.getD i 0 then -1 else if b.getD i 0<a.getD i 0 then 1 else U6 (a.drop (i+1)) (b.drop (i+1)):=by
 rw[List.drop_eq_getElem_cons ha,List.drop_eq_getElem_cons hb,U6,getD_lt ha,getD_lt hb]
deriving instance DecidableEq for aE3
theorem dZ {f g:Nat->Rat}:∀ {n:Nat},(∀ i,i<n->f i=g i)->dw f n=dw g n
 | 0,_=>rfl
 | n+1,h=>by rw[dw,dw,dZ λi hi=>h i (by omega),h n (Nat.lt_succ_self n)]
theorem oU {f:Nat->Rat}:∀ {n:Nat},(∀ i,i<n->f i=0)->dw f n=0
 | 0,_=>rfl
 | n+1,h=>by rw[dw,oU λi hi=>h i (by omega),h n (Nat.lt_succ_self n)];grind
theorem CG (f g:Nat->Rat):∀ n,dw (λi=>f i+g i) n=dw f n+dw g n
 | 0=>by rw[dw,dw,dw];grind
 | n+1=>by rw[dw,dw,dw,CG f g n];grind
theorem Kq (f:Nat->Rat)(c:Rat):∀ n,dw (λi=>f i*c) n=dw f n*c
 | 0=>by rw[dw,dw,Rat.zero_mul]
 | n+1=>by rw[dw,dw,Kq f c n,Rat.add_mul]
theorem Gq (f:Nat->Rat)(c:Rat)(n:Nat):dw (λi=>c*f i) n=c*dw f n:=by
 rw[Rat.mul_comm,<- Kq];exact dZ λi _=>Rat.mul_comm ..
theorem Ea (f:Nat->Rat):∀ n,f 0+dw (λt=>f (t+1)) n=dw f (n+1)
 | 0=>by rw[dw,dw,dw];grind
 | n+1=>by rw[dw,dw,<- Ea f n];grind
theorem Kr {v:Nat->Rat}{x n:Nat}(hx:x<n):dw (λy=>if x=y then v y else 0) n=v x:=by
 induction n with
 | zero=>omega
 | succ n ih =>
  rw[dw];by_cases hn:x=n
  .rw[if_pos hn,hn,oU λi hi=>if_neg (by omega)];grind
  .rw[if_neg hn,ih (by omega)];grind
def aQ5 (l:List Rat):Rat:=dw (λi=>l.getD i 0) l.length
structure Fit (h:HM) (w:List Int):Prop where
 row:∀ t,t<w.length->aQ5 (NZ h w t)=1
 bq6:∀ i,aQ5 (SC h w w.length i)=dw (λt=>NY h w t i) w.length
 out:∀ i,i<h.st->aQ5 (moveRow h w (w.length-1) i)+NY h w (w.length-1) i=dw (λt=>NY h w t i) w.length
 into:∀ i,i<h.st->NY h w 0 i+dw (λj=>aL3 h w (w.length-1) j i) h.st=dw (λt=>NY h w t i) w.length
structure Got (h:HM) (w:List Int):Prop where
 pl:(aL2 h w).length=w.length
 pg:∀ t,t<w.length->(aL2 h w).getD t []=NZ h w t
 sS:exS h w=NZ h w 0
 sE:exE h w=NZ h w (w.length-1)
 lM:(exM h w).length=h.st
 lO:(exO h w).length=h.st
 gM:∀ i,i<h.st->(exM h w).getD i []=moveRow h w (w.length-1) i
 gO:∀ i,i<h.st->(exO h w).getD i []=SC h w w.length i
def qC {α:Type}(f:α->Rat):List α->Rat
 | []=>0
 | x::r=>f x+qC f r
theorem LM {α:Type}(f:α->Rat):∀ a b:List α,qC f (a++b)=qC f a+qC f b
 | [],b=>by rw[List.nil_append,qC,Rat.zero_add]
 | x::a,b=>by rw[List.cons_append,qC,qC,LM f a b,Rat.add_assoc]
def SH (n:Nat):Nat->List (List Int)
 | 0=>[[]]
 | k+1=>(SH n k).flatMap λp=>(List.range n).map λ(s:Nat)=>p++[(s:Int)]
def atP (p:List Int)(t:Nat):Nat:=(p.getD t 0).toNat
def wgt (h:HM)(w:List Int)(p:List Int):Nat->Rat
 | 0=>h.ini.getD (atP p 0) 0
 | t+1=>(if t=0 then wgt h w p t else wgt h w p t*Hw h (atP p (t-1)) (atP p t))*EN h (atP p t) (BI w t)
def a14 (h:HM)(p:Nat->Bool)(g:Nat->Rat):List Rat:=(List.range h.st).map λi=>if p i=true then g i else 0
def ao6 (h:HM)(w:List Int)(p:Nat->Nat->Bool):Nat->List Rat
 | 0=>a14 h (p (w.length-1)) λi=>h.stop.getD i 0
 | d+1=>a14 h (p (w.length-1-(d+1))) λi=>(SA h (i:Nat) (BI w (w.length-1-d)) (ao6 h w p d) h.st).1
def a15 (h:HM)(w:List Int)(p:Nat->Nat->Bool)(fr:Int)(t:Nat):Rat × Nat:=SA h fr (BI w t) (ao6 h w p (w.length-1-t)) h.st
def toG (h:HM)(w:List Int)(p:Nat->Nat->Bool):Nat->Int
 | 0=>-1
 | t+1=>((a15 h w p (toG h w p t) t).2:Nat)
def a18 (h:HM)(w:List Int)(p:Nat->Nat->Bool)(t:Nat):List Int:=(List.range t).map λi=>toG h w p (i+1)
def aL4 (h:HM)(w:List Int)(p:Nat->Nat->Bool):Rat:=(a15 h w p (-1) 0).1
def every:Nat->Nat->Bool:=λ_ _=>true
structure be3 (h:HM) (fr:Int) (x:Nat) (rest:List Rat) (n:Nat) (r:Rat × Nat):Prop where
 nonneg:0<=r.1
 le:∀ i,i<n->ao3 h fr x rest i<=r.1
 zero:r.1=0->r.2=0
 lt:0<r.1->r.2<n
 eq:0<r.1->ao3 h fr x rest r.2=r.1
 least:0<r.1->∀ i,i<r.2->ao3 h fr x rest i<r.1
def a19 (h:HM)(w:List Int)(p:Nat->Nat->Bool):Rat:=if w.length=0 then h.empty else aL4 h w p
def bi8 (h:HM)(w:List Int)(p:Nat->Nat->Bool):List Int:=if w.length=0 \/ aL4 h w p=0 then [] else a18 h w p w.length
def bi9 (h:HM)(w:List Int)(p:Nat->Nat->Bool):Int:=if a19 h w p=0 then 11 else 0
def bj0 (sets:List Int)(t:Nat):Nat:=if t<sets.length then (within (sets.getD t 0) 8).toNat else 7
def a81 (x s:Nat):Bool:=decide (x / 2 ^ s % 2=1)
def rowA (x n:Nat):List Int:=((List.range n).filter λs=>a81 x s).map λs:Nat=>(s:Int)
def a88 (h:HM)(w sets:List Int)(n:Nat):Prop:=bi9 h w every=0/\∀ t,t<n->a81 (bj0 sets t) ((bi8 h w every).getD t 0).toNat=true
instance (h:HM) (w sets:List Int) (n:Nat):Decidable (a88 h w sets n):=inferInstanceAs (Decidable (_/\_))
def cmpL:List Int->List Int->Int
 | [],[]=>0
 | [],_::_=>-1
 | _::_,[]=>1
 | a::x,b::y=>if a<b then -1 else if b<a then 1 else cmpL x y
theorem Kt:∀ x:List Int,cmpL x x=0
 | []=>rfl
 | a::x=>by rw[cmpL,if_neg (by omega),if_neg (by omega),Kt x]
theorem U7:∀ x y:List Int,cmpL y x = -cmpL x y
 | [],[]=>rfl
 | [],_::_=>rfl
 | _::_,[]=>rfl
 | a :: x, b :: y => by
  rw[cmpL,cmpL,U7 x y];by_cases h1:a<b
  .rw[if_neg (by omega),if_pos h1,if_pos h1];rfl
  .rw[if_neg h1];by_cases h2:b<a
   .rw[if_pos h2,if_neg h1,if_pos h2]
   .rw[if_neg h2,if_neg h2,if_neg h1]
theorem Qw:∀ {x y:List Int},cmpL x y=0->x=y
 | [],[],_=>rfl
 | [],_::_,h=>by rw[cmpL] at h;exact absurd h (by decide)
 | _::_,[],h=>by rw[cmpL] at h;exact absurd h (by decide)
 | a :: x, b :: y, h => by
  rw[cmpL] at h;by_cases h1:a<b
  .rw[if_pos h1] at h;exact absurd h (by decide)
  .rw[if_neg h1] at h;by_cases h2:b<a
   .rw[if_pos h2] at h;exact absurd h (by decide)
   .rw[if_neg h2] at h;rw[Qw h,show a=b by omega]
theorem N8:∀ {x y z:List Int},cmpL x y<=0->cmpL y z<=0->cmpL x z<=0
 | [],_,[],_,_=>by rw[cmpL];decide
 | [],_,_::_,_,_=>by rw[cmpL];decide
 | _::_,[],_,h,_=>by rw[cmpL] at h;exact absurd h (by decide)
 | _::_,_::_,[],_,h=>by rw[cmpL] at h;exact absurd h (by decide)
 | a :: x, b :: y, c :: z, h1, h2 => by
  rw[cmpL] at h1 h2 ⊢;by_cases hab:a<b
  .by_cases hcb:c<b
   .rw[if_neg (by omega),if_pos hcb] at h2;exact absurd h2 (by decide)
   .rw[if_pos (by omega)];decide
  .rw[if_neg hab] at h1;by_cases hba:b<a
   .rw[if_pos hba] at h1;exact absurd h1 (by decide)
   .rw[if_neg hba] at h1;by_cases hbc:b<c
    .rw[if_pos (by omega)];decide
    .rw[if_neg hbc] at h2;by_cases hcb:c<b
     .rw[if_pos hcb] at h2;exact absurd h2 (by decide)
     .rw[if_neg hcb] at h2;rw[if_neg (by omega),if_neg (by omega)]
      exact N8 h1 h2
theorem Gs {a b:Int}:∀ {x y:List Int},x.length=y.length->cmpL (x++[a]) (y++[b])=if cmpL x y=0 then (if a<b then -1 else if b<a then 1 else 0) else cmpL x y
 | [],[],_=>by rw[List.nil_append,List.nil_append,cmpL,cmpL,if_pos rfl,cmpL]
 | [],_::_,h=>by simp at h
 | _::_,[],h=>by simp at h
 | c :: x, d :: y, h => by
  rw[List.cons_append,List.cons_append,cmpL,cmpL,Gs (by simpa using h)]
  by_cases h1:c<d
  .rw[if_pos h1,if_pos h1,if_neg (by decide)]
  .rw[if_neg h1,if_neg h1];by_cases h2:d<c
   .rw[if_pos h2,if_pos h2,if_neg (by decide)]
   .rw[if_neg h2,if_neg h2]
theorem N9 {a:Int}{x y:List Int}(h:x.length=y.length):cmpL (x++[a]) (y++[a])=cmpL x y:=by
 rw[Gs h]
 split
 .rename_i e;rw[if_neg (by omega),if_neg (by omega),e]
 .rfl
section
variable {h:HM}{bb B:Nat}{u:List Int}
def follow (h:HM)(u:List Int)(s i:Nat):Rat:=(ao6 h u every (u.length-1-s)).getD i 0
end
def aQ7:List Int->List Int->Nat
 | a::x,b::y=>if a=b then aQ7 x y+1 else 0
 | _,_=>0
def ab9 (al:Nat->Bool)(ps:Nat->List Int):Nat->Int × List Int
 | 0=>(-1,[])
 | i + 1 => if al i = true then
   (if (ab9 al ps i).1<0 then (((min (ps i).length (aQ7 (ps i) (ps i)):Nat):Int),ps i) else (((min (ab9 al ps i).1.toNat (aQ7 (ps i) (ab9 al ps i).2):Nat):Int),(ab9 al ps i).2)) else ab9 al ps i
structure be5 (al:Nat->Bool) (ps:Nat->List Int) (n:Nat) (c:Int × List Int):Prop where
 none:(∀ i,i<n->al i=false)->c=(-1,[])
 some:(∃ i,i<n/\al i=true)->0<=c.1/\(∃ i,i<n/\al i=true/\c.2=ps i)/\(∀ i,i<n->al i=true->c.1.toNat<=(ps i).length/\(ps i).take c.1.toNat=c.2.take c.1.toNat) /\
  ∀ m,(∀ i,i<n->al i=true->m<=(ps i).length/\(ps i).take m=c.2.take m)->m<=c.1.toNat
structure Dec where
 t:Nat
 sc:List Rat
 tl:List (List Int)
 dn:List Int
def Y4 (x:Rat)(y:List Int)(m:Rat × List Int):Prop:=m.1<x \/ (x=m.1/\0<x/\cmpL y m.2<0)
instance (x:Rat) (y:List Int) (m:Rat × List Int):Decidable (Y4 x y m):=by unfold Y4;infer_instance
def ao7 (h:HM)(o:Dec)(j i:Nat):Rat:=o.sc.getD i 0*Hw h i j
section
variable {h:HM}{bb B:Nat}{u:List Int}{o:Dec}
structure a90 (h:HM) (u:List Int) (t:Nat) (S:Nat->Rat) (Q:Nat->List Int):Prop where
 nonneg:∀ j,j<h.st->0<=S j
 max:∀ p,p ∈ SH h.st t->wgt h u p t<=S (atP p (t-1))
 live:∀ j,j<h.st->0<S j->Q j ∈ SH h.st t/\atP (Q j) (t-1)=j/\wgt h u (Q j) t=S j/\∀ p,p ∈ SH h.st t->atP p (t-1)=j->wgt h u p t=S j->cmpL (Q j) p<=0
structure bv4 (h:HM) (u:List Int) (o:Dec):Prop where
 le:o.t<=u.length
 zero:o.t=0->o.sc=[]/\o.tl=[]/\o.dn=[]
 len:o.t≠0->o.sc.length=h.st/\o.tl.length=h.st
 heads:o.t≠0->a90 h u o.t (λj=>o.sc.getD j 0) λj=>o.dn++o.tl.getD j []
 dead:∀ j,¬ 0<o.sc.getD j 0->o.tl.getD j []=[]
 some:o.t≠0->∃ j,j<h.st/\0<o.sc.getD j 0
 com:o.t≠0->(ab9 (λj=>decide (0<o.sc.getD j 0)) (λj=>o.tl.getD j []) h.st).1=0
 small:Small (1+2048*o.t) o.sc
structure a92 (h:HM) (o:Dec) (j n:Nat) (m:Rat × List Int):Prop where
 nonneg:0<=m.1
 le:∀ i,i<n->ao7 h o j i<=m.1
 pos:0<m.1->∃ i,i<n/\m=(ao7 h o j i,o.tl.getD i [])
 least:0<m.1->∀ i,i<n->ao7 h o j i=m.1->cmpL m.2 (o.tl.getD i [])<=0
end
def aQ8 (h:HM)(o:Dec)(i:Nat):Rat:=o.sc.getD i 0*h.stop.getD i 0
structure be6 (h:HM) (o:Dec) (n:Nat) (m:Rat × List Int):Prop where
 nonneg:0<=m.1
 le:∀ i,i<n->aQ8 h o i<=m.1
 pos:0<m.1->∃ i,i<n/\m=(aQ8 h o i,o.tl.getD i [])
 least:0<m.1->∀ i,i<n->aQ8 h o i=m.1->cmpL m.2 (o.tl.getD i [])<=0
section
variable {h:HM}{bb B:Nat}{u:List Int}{o:Dec}
structure be7 (ts:List Int) (n:Nat):Prop where
 ge:∀ s,s<ts.length->(s:Int)+1<=ts.getD s 0
 le:∀ s,s<ts.length->ts.getD s 0<=n
 mono:∀ s,s+1<ts.length->ts.getD s 0<=ts.getD (s+1) 0

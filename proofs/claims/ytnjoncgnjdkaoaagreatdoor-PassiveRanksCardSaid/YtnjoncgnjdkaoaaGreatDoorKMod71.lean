/-
  M, chapters 23 and 24: machines over the rational numbers, explored word by word in shortlex order.
-/
import Derived.Test.YtnjoncgnjdkaoaaGreatDoorKMod40c
set_option linter.unusedVariables false
set_option linter.unusedSimpArgs false
namespace Go.AL
open Go Go.BigFrame
theorem aJ {f g:Nat->Rat}:∀ {n:Nat},(∀ i,i<n->f i=g i)->aW f n=aW g n
 | 0,_=>rfl
 | n+1,h=>by rw[aW,aW,aJ λi hi=>h i (by omega),h n (Nat.lt_succ_self n)]
theorem lV {f:Nat->Rat}:∀ {n:Nat},(∀ i,i<n->f i=0)->aW f n=0
 | 0,_=>rfl
 | n+1,h=>by rw[aW,lV λi hi=>h i (by omega),h n (Nat.lt_succ_self n)];grind
theorem qG (f g:Nat->Rat):∀ n,aW (λi=>f i+g i) n=aW f n+aW g n
 | 0=>by rw[aW,aW,aW];grind
 | n+1=>by rw[aW,aW,aW,qG f g n];grind
theorem uj (f:Nat->Rat)(c:Rat):∀ n,aW (λi=>f i*c) n=aW f n*c
 | 0=>by rw[aW,aW,Rat.zero_mul]
 | n+1=>by rw[aW,aW,uj f c n,Rat.add_mul]
theorem jf (f:Nat->Rat)(c:Rat)(n:Nat):aW (λi=>c*f i) n=c*aW f n:=by
 rw[Rat.mul_comm,<- uj];exact aJ λi _=>Rat.mul_comm ..
theorem IG (f:Nat->Rat)(c:Rat)(n:Nat):aW (λi=>f i / c) n=aW f n / c:=by
 rw[Rat.div_def,<- uj];exact aJ λi _=>Rat.div_def ..
theorem qZ (f:Nat->Nat->Rat)(m:Nat):∀ n,aW (λi=>aW (λj=>f i j) m) n=aW (λj=>aW (λi=>f i j) n) m
 | 0=>by rw[aW];exact (lV λ_ _=>rfl).symm
 | n+1=>by
  rw[aW,qZ f m n,<- qG];exact aJ λj _=>rfl
theorem L6 (f:Nat->Rat):∀ n,f 0+aW (λt=>f (t+1)) n=aW f (n+1)
 | 0=>by rw[aW,aW,aW];grind
 | n+1=>by rw[aW,aW,<- L6 f n];grind
theorem ah2 {h:HM}{w:List Int}{t d:Nat}(ht:d+1+t+1=w.length):aW (λi=>(D9 h w t).getD i 0*(LQ h w (d+1)).getD i 0) h.st=aW (λj=>(D9 h w (t+1)).getD j 0*(LQ h w d).getD j 0) h.st:=by
 have e1:∀ i,i<h.st->(D9 h w t).getD i 0*(LQ h w (d+1)).getD i 0=aW (λj=>(D9 h w t).getD i 0*trQ h i j*(emQ h j (FB w (t+1))*(LQ h w d).getD j 0)) h.st:=λi hi=>by
  rw[XL (d:=d+1) (a:=t) (by omega) (by omega) hi,ay2,<- jf]
  exact aJ λj _=>by rw[show d+1-1=d from rfl,Rat.mul_assoc]
 rw[aJ e1,qZ];refine aJ λj hj=>?_;rw[uj,XK (t:=t+1) (by omega) hj,show t+1-1=t from rfl,ag9,Rat.mul_assoc]
theorem ah3 {h:HM}{w:List Int}:∀ {d t:Nat},d+t+1=w.length->aW (λi=>(D9 h w t).getD i 0*(LQ h w d).getD i 0) h.st=LU h w
 | 0,t,ht=>by
  rw[show LU h w=ay3 h (D9 h w (w.length-1)) h.st from if_neg (by omega),ay3,show w.length-1=t by omega]
  exact aJ λi hi=>by rw[ah0 hi]
 | d+1,t,ht=>by
  rw[ah2 (by omega)]
  exact ah3 (by omega)
theorem ah4 {h:HM}{w:List Int}{t:Nat}(ht:t<w.length)(hz:LU h w≠0):aW (λi=>vk h w t i) h.st=1:=by
 unfold vk;rw[IG,ah3 (by omega),Rat.div_def,Rat.mul_inv_cancel _ hz]
theorem aM1 {h:HM}{w:List Int}{t i:Nat}(ht:t+1<w.length)(hi:i<h.st):aW (λj=>xiQ h w t i j) h.st=vk h w t i:=by
 unfold xiQ vk;rw[IG,XL (d:=w.length-1-t) (a:=t) (by omega) (by omega) hi,ay2,<- jf,show w.length-1-(t+1)=w.length-1-t-1 by omega]
 congr 1;exact aJ λj _=>Rat.mul_assoc ..
theorem aM2 {h:HM}{w:List Int}{t j:Nat}(hj:j<h.st):aW (λi=>xiQ h w t i j) h.st=vk h w (t+1) j:=by
 unfold xiQ vk;rw[IG,uj,XK (t:=t+1) (by omega) hj,show t+1-1=t from rfl,ag9,Rat.mul_assoc]
theorem vU {v:Nat->Rat}{x n:Nat}(hx:x<n):aW (λy=>if x=y then v y else 0) n=v x:=by
 induction n with
 | zero=>omega
 | succ n ih =>
  rw[aW];by_cases hn:x=n
  .rw[if_pos hn,hn,lV λi hi=>if_neg (by omega)];grind
  .rw[if_neg hn,ih (by omega)];grind
theorem TK {h:HM}{w:List Int}{i:Nat}:∀ {n:Nat},(∀ t,t<n->FB w t<h.sym)->aW (λx=>aH5 h w n i x) h.sym=aW (λt=>vk h w t i) n
 | 0,_=>lV λ_ _=>rfl
 | n+1,hx=>by
  rw[aW,<- TK λt ht=>hx t (by omega)]
  rw[<- vU (v:=λ_=>vk h w n i) (hx n (Nat.lt_succ_self n)),<- qG];exact aJ λx _=>rfl
theorem ah5 {h:HM}{w:List Int}{i:Nat}(hi:i<h.st):∀ {n:Nat},n<w.length->aW (λj=>LY h w n i j) h.st+vk h w n i=aW (λt=>vk h w t i) (n+1):=λ{n} hn=>by
 rw[aW];congr 1;unfold LY;rw[qZ];exact aJ λt ht=>aM1 (by omega) hi
theorem ah6 {h:HM}{w:List Int}{i n:Nat}(hi:i<h.st):vk h w 0 i+aW (λj=>LY h w n j i) h.st=aW (λt=>vk h w t i) (n+1):=by
 rw[<- L6];congr 1;unfold LY;rw[qZ];exact aJ λt _=>aM2 hi
def ah7 (l:List Rat):Rat:=aW (λi=>l.getD i 0) l.length
theorem L8 {f:Nat->Rat}(n:Nat):ah7 ((List.range n).map f)=aW f n:=by
 unfold ah7;rw[dD,List.length_range];exact aJ λi hi=>aK _ _ hi
structure Fit (h:HM) (w:List Int):Prop where
 row:∀ t,t<w.length->ah7 (LV h w t)=1
 bm0:∀ i,ah7 (QY h w w.length i)=aW (λt=>vk h w t i) w.length
 out:∀ i,i<h.st->ah7 (moveRow h w (w.length-1) i)+vk h w (w.length-1) i=aW (λt=>vk h w t i) w.length
 into:∀ i,i<h.st->vk h w 0 i+aW (λj=>LY h w (w.length-1) j i) h.st=aW (λt=>vk h w t i) w.length
theorem fit {h:HM}{w:List Int}(hx:∀ t,t<w.length->FB w t<h.sym)(hz:LU h w≠0)(hn:w.length≠0):Fit h w :=
 ⟨λt ht=>(L8 _).trans (ah4 ht hz),λi=>(L8 _).trans (TK hx),
  λi hi=>by rw[show moveRow h w (w.length-1) i=(List.range h.st).map λj=>LY h w (w.length-1) i j from rfl,L8,ah5 hi (by omega),show w.length-1+1=w.length by omega],
  λi hi=>by rw[ah6 hi,show w.length-1+1=w.length by omega]⟩
structure Got (h:HM) (w:List Int):Prop where
 pl:(aH4 h w).length=w.length
 pg:∀ t,t<w.length->(aH4 h w).getD t []=LV h w t
 sS:exS h w=LV h w 0
 sE:exE h w=LV h w (w.length-1)
 lM:(exM h w).length=h.st
 lO:(exO h w).length=h.st
 gM:∀ i,i<h.st->(exM h w).getD i []=moveRow h w (w.length-1) i
 gO:∀ i,i<h.st->(exO h w).getD i []=QY h w w.length i
def jD {α:Type}(f:α->Rat):List α->Rat
 | []=>0
 | x::r=>f x+jD f r
theorem JD {α:Type}(f:α->Rat):∀ a b:List α,jD f (a++b)=jD f a+jD f b
 | [],b=>by rw[List.nil_append,jD,Rat.zero_add]
 | x::a,b=>by rw[List.cons_append,jD,jD,JD f a b,Rat.add_assoc]
theorem TL {α β:Type}(f:β->Rat)(g:α->β):∀ l:List α,jD f (l.map g)=jD (λx=>f (g x)) l
 | []=>rfl
 | x::l=>by rw[List.map_cons,jD,TL f g l];rfl
theorem L9 {α:Type}{f g:α->Rat}:∀ {l:List α},(∀ x,x ∈ l->f x=g x)->jD f l=jD g l
 | [],_=>rfl
 | x::l,h=>by rw[jD,jD,h x vC,L9 λy hy=>h y (List.mem_cons_of_mem _ hy)]
def QZ (n:Nat):Nat->List (List Int)
 | 0=>[[]]
 | k+1=>(QZ n k).flatMap λp=>(List.range n).map λ(s:Nat)=>p++[(s:Int)]
def atP (p:List Int)(t:Nat):Nat:=(p.getD t 0).toNat
def wgt (h:HM)(w:List Int)(p:List Int):Nat->Rat
 | 0=>h.ini.getD (atP p 0) 0
 | t+1=>(if t=0 then wgt h w p t else wgt h w p t*trQ h (atP p (t-1)) (atP p t))*emQ h (atP p t) (FB w t)
def aW5 (h:HM)(p:Nat->Bool)(g:Nat->Rat):List Rat:=(List.range h.st).map λi=>if p i=true then g i else 0
def ah8 (h:HM)(w:List Int)(p:Nat->Nat->Bool):Nat->List Rat
 | 0=>aW5 h (p (w.length-1)) λi=>h.stop.getD i 0
 | d+1=>aW5 h (p (w.length-1-(d+1))) λi=>(QX h (i:Nat) (FB w (w.length-1-d)) (ah8 h w p d) h.st).1
def aW6 (h:HM)(w:List Int)(p:Nat->Nat->Bool)(fr:Int)(t:Nat):Rat × Nat:=QX h fr (FB w t) (ah8 h w p (w.length-1-t)) h.st
def toG (h:HM)(w:List Int)(p:Nat->Nat->Bool):Nat->Int
 | 0=>-1
 | t+1=>((aW6 h w p (toG h w p t) t).2:Nat)
def aW7 (h:HM)(w:List Int)(p:Nat->Nat->Bool)(t:Nat):List Int:=(List.range t).map λi=>toG h w p (i+1)
def aH6 (h:HM)(w:List Int)(p:Nat->Nat->Bool):Rat:=(aW6 h w p (-1) 0).1
def every:Nat->Nat->Bool:=λ_ _=>true
structure bb5 (h:HM) (fr:Int) (x:Nat) (rest:List Rat) (n:Nat) (r:Rat × Nat):Prop where
 nonneg:0<=r.1
 le:∀ i,i<n->ag8 h fr x rest i<=r.1
 zero:r.1=0->r.2=0
 lt:0<r.1->r.2<n
 eq:0<r.1->ag8 h fr x rest r.2=r.1
 least:0<r.1->∀ i,i<r.2->ag8 h fr x rest i<r.1
def aW8 (h:HM)(w:List Int)(p:Nat->Nat->Bool):Rat:=if w.length=0 then h.empty else aH6 h w p
def bf7 (h:HM)(w:List Int)(p:Nat->Nat->Bool):List Int:=if w.length=0 \/ aH6 h w p=0 then [] else aW7 h w p w.length
def bf8 (h:HM)(w:List Int)(p:Nat->Nat->Bool):Int:=if aW8 h w p=0 then 11 else 0
def bf9 (sets:List Int)(t:Nat):Nat:=if t<sets.length then (within (sets.getD t 0) 8).toNat else 7
def aW9 (x s:Nat):Bool:=decide (x / 2 ^ s % 2=1)
def rowA (x n:Nat):List Int:=((List.range n).filter λs=>aW9 x s).map λs:Nat=>(s:Int)
def aX0 (h:HM)(w sets:List Int)(n:Nat):Prop:=bf8 h w every=0/\∀ t,t<n->aW9 (bf9 sets t) ((bf7 h w every).getD t 0).toNat=true
instance (h:HM) (w sets:List Int) (n:Nat):Decidable (aX0 h w sets n):=inferInstanceAs (Decidable (_/\_))
def cmpL:List Int->List Int->Int
 | [],[]=>0
 | [],_::_=>-1
 | _::_,[]=>1
 | a::x,b::y=>if a<b then -1 else if b<a then 1 else cmpL x y
theorem II:∀ x:List Int,cmpL x x=0
 | []=>rfl
 | a::x=>by rw[cmpL,if_neg (by omega),if_neg (by omega),II x]
theorem TM:∀ x y:List Int,cmpL y x = -cmpL x y
 | [],[]=>rfl
 | [],_::_=>rfl
 | _::_,[]=>rfl
 | a :: x, b :: y => by
  rw[cmpL,cmpL,TM x y];by_cases h1:a<b
  .rw[if_neg (by omega),if_pos h1,if_pos h1];rfl
  .rw[if_neg h1];by_cases h2:b<a
   .rw[if_pos h2,if_neg h1,if_pos h2]
   .rw[if_neg h2,if_neg h2,if_neg h1]
theorem O7:∀ {x y:List Int},cmpL x y=0->x=y
 | [],[],_=>rfl
 | [],_::_,h=>by rw[cmpL] at h;exact absurd h (by decide)
 | _::_,[],h=>by rw[cmpL] at h;exact absurd h (by decide)
 | a :: x, b :: y, h => by
  rw[cmpL] at h;by_cases h1:a<b
  .rw[if_pos h1] at h;exact absurd h (by decide)
  .rw[if_neg h1] at h;by_cases h2:b<a
   .rw[if_pos h2] at h;exact absurd h (by decide)
   .rw[if_neg h2] at h;rw[O7 h,show a=b by omega]
theorem Md:∀ {x y z:List Int},cmpL x y<=0->cmpL y z<=0->cmpL x z<=0
 | [],_,[],_,_=>by rw[cmpL];decide
 | [],_,_::_,_,_=>by rw[cmpL];decide
 | _::_,[],_,h,_=>by rw[cmpL] at h;exact absurd h (by decide)
 | _::_,_::_,[],_,h=>by rw[cmpL] at h;exact absurd h (by decide)
 | a :: x, b :: y, c :: z, h1, h2 => by
  rw[cmpL] at h1 h2 ⊢;by_cases hab:a<b
  .by_cases hcb:c<b
   .rw[if_neg (by omega),if_pos hcb] at h2;exact absurd h2 (by decide)
   .rw[if_pos (by omega)];decide
  .rw[if_neg hab] at h1;by_cases hba:b<a
   .rw[if_pos hba] at h1;exact absurd h1 (by decide)
   .rw[if_neg hba] at h1;by_cases hbc:b<c
    .rw[if_pos (by omega)];decide
    .rw[if_neg hbc] at h2;by_cases hcb:c<b
     .rw[if_pos hcb] at h2;exact absurd h2 (by decide)
     .rw[if_neg hcb] at h2;rw[if_neg (by omega),if_neg (by omega)]
      exact Md h1 h2
theorem EU {a b:Int}:∀ {x y:List Int},x.length=y.length->cmpL (x++[a]) (y++[b])=if cmpL x y=0 then (if a<b then -1 else if b<a then 1 else 0) else cmpL x y
 | [],[],_=>by rw[List.nil_append,List.nil_append,cmpL,cmpL,if_pos rfl,cmpL]
 | [],_::_,h=>by simp at h
 | _::_,[],h=>by simp at h
 | c :: x, d :: y, h => by
  rw[List.cons_append,List.cons_append,cmpL,cmpL,EU (by simpa using h)]
  by_cases h1:c<d
  .rw[if_pos h1,if_pos h1,if_neg (by decide)]
  .rw[if_neg h1,if_neg h1];by_cases h2:d<c
   .rw[if_pos h2,if_pos h2,if_neg (by decide)]
   .rw[if_neg h2,if_neg h2]
theorem Me {a:Int}{x y:List Int}(h:x.length=y.length):cmpL (x++[a]) (y++[a])=cmpL x y:=by
 rw[EU h]
 split
 .rename_i e;rw[if_neg (by omega),if_neg (by omega),e]
 .rfl
section
variable {h:HM}{bb B:Nat}{u:List Int}
def follow (h:HM)(u:List Int)(s i:Nat):Rat:=(ah8 h u every (u.length-1-s)).getD i 0
end
def aM4:List Int->List Int->Nat
 | a::x,b::y=>if a=b then aM4 x y+1 else 0
 | _,_=>0
def Y9 (al:Nat->Bool)(ps:Nat->List Int):Nat->Int × List Int
 | 0=>(-1,[])
 | i + 1 => if al i = true then
   (if (Y9 al ps i).1<0 then (((min (ps i).length (aM4 (ps i) (ps i)):Nat):Int),ps i) else (((min (Y9 al ps i).1.toNat (aM4 (ps i) (Y9 al ps i).2):Nat):Int),(Y9 al ps i).2)) else Y9 al ps i
structure bb6 (al:Nat->Bool) (ps:Nat->List Int) (n:Nat) (c:Int × List Int):Prop where
 none:(∀ i,i<n->al i=false)->c=(-1,[])
 some:(∃ i,i<n/\al i=true)->0<=c.1/\(∃ i,i<n/\al i=true/\c.2=ps i)/\(∀ i,i<n->al i=true->c.1.toNat<=(ps i).length/\(ps i).take c.1.toNat=c.2.take c.1.toNat) /\
  ∀ m,(∀ i,i<n->al i=true->m<=(ps i).length/\(ps i).take m=c.2.take m)->m<=c.1.toNat
structure Dec where
 t:Nat
 sc:List Rat
 tl:List (List Int)
 dn:List Int
def XM (x:Rat)(y:List Int)(m:Rat × List Int):Prop:=m.1<x \/ (x=m.1/\0<x/\cmpL y m.2<0)
instance (x:Rat) (y:List Int) (m:Rat × List Int):Decidable (XM x y m):=by unfold XM;infer_instance
def ah9 (h:HM)(o:Dec)(j i:Nat):Rat:=o.sc.getD i 0*trQ h i j
section
variable {h:HM}{bb B:Nat}{u:List Int}{o:Dec}
structure aX1 (h:HM) (u:List Int) (t:Nat) (S:Nat->Rat) (Q:Nat->List Int):Prop where
 nonneg:∀ j,j<h.st->0<=S j
 max:∀ p,p ∈ QZ h.st t->wgt h u p t<=S (atP p (t-1))
 live:∀ j,j<h.st->0<S j->Q j ∈ QZ h.st t/\atP (Q j) (t-1)=j/\wgt h u (Q j) t=S j/\∀ p,p ∈ QZ h.st t->atP p (t-1)=j->wgt h u p t=S j->cmpL (Q j) p<=0
structure br0 (h:HM) (u:List Int) (o:Dec):Prop where
 le:o.t<=u.length
 zero:o.t=0->o.sc=[]/\o.tl=[]/\o.dn=[]
 len:o.t≠0->o.sc.length=h.st/\o.tl.length=h.st
 heads:o.t≠0->aX1 h u o.t (λj=>o.sc.getD j 0) λj=>o.dn++o.tl.getD j []
 dead:∀ j,¬ 0<o.sc.getD j 0->o.tl.getD j []=[]
 some:o.t≠0->∃ j,j<h.st/\0<o.sc.getD j 0
 com:o.t≠0->(Y9 (λj=>decide (0<o.sc.getD j 0)) (λj=>o.tl.getD j []) h.st).1=0
 small:Small (1+2048*o.t) o.sc
structure aX2 (h:HM) (o:Dec) (j n:Nat) (m:Rat × List Int):Prop where
 nonneg:0<=m.1
 le:∀ i,i<n->ah9 h o j i<=m.1
 pos:0<m.1->∃ i,i<n/\m=(ah9 h o j i,o.tl.getD i [])
 least:0<m.1->∀ i,i<n->ah9 h o j i=m.1->cmpL m.2 (o.tl.getD i [])<=0
end
def aM5 (h:HM)(o:Dec)(i:Nat):Rat:=o.sc.getD i 0*h.stop.getD i 0
structure bb7 (h:HM) (o:Dec) (n:Nat) (m:Rat × List Int):Prop where
 nonneg:0<=m.1
 le:∀ i,i<n->aM5 h o i<=m.1
 pos:0<m.1->∃ i,i<n/\m=(aM5 h o i,o.tl.getD i [])
 least:0<m.1->∀ i,i<n->aM5 h o i=m.1->cmpL m.2 (o.tl.getD i [])<=0
section
variable {h:HM}{bb B:Nat}{u:List Int}{o:Dec}
structure bb8 (ts:List Int) (n:Nat):Prop where
 ge:∀ s,s<ts.length->(s:Int)+1<=ts.getD s 0
 le:∀ s,s<ts.length->ts.getD s 0<=n
 mono:∀ s,s+1<ts.length->ts.getD s 0<=ts.getD (s+1) 0
end
structure dZ where
 n:Nat
 ini:List Rat
 fin:List Rat
 Bj:List (List (List Rat))
def dZ.k (m:dZ):Nat:=m.Bj.length
def sG (m:dZ)(s i j:Nat):Rat:=((m.Bj.getD s []).getD i []).getD j 0
def stepM (m:dZ)(v:List Rat)(s:Nat):List Rat:=(List.range m.n).map λj=>aW (λi=>v.getD i 0*sG m s i j) m.n
def bQ (m:dZ)(w:List Int):List Rat:=w.foldl (λv x=>stepM m v (x.toNat-1)) m.ini
def Bl (n:Nat)(u v:Nat->Rat):Rat:=aW (λi=>u i*v i) n
def wW (m:dZ)(w:List Int):Rat:=Bl m.n (vf (bQ m w)) (vf m.fin)
structure dZ.Ok (m:dZ):Prop where
 ini:m.ini.length=m.n
 fin:m.fin.length=m.n
def mY (a b:List Int):Int:=if a.length≠b.length then (if a.length<b.length then -1 else 1) else cmpL a b
def iV (k:Nat)(w:List Int):Prop:=∀ x,x ∈ w->1<=x/\x<=(k:Int)
def dh (k:Nat)(w:List Int):List (List Int):=(List.range k).map λs=>w++[((s+1:Nat):Int)]
section
variable {m:dZ}{w u:List Int}{a b c:List Int}
theorem EW (m:dZ)(v:List Rat)(s:Nat):(stepM m v s).length=m.n:=by simp[stepM]
theorem lW (x:Int):bQ m (w++[x])=stepM m (bQ m w) (x.toNat-1):=by unfold bQ;rw[List.foldl_append];rfl
theorem xw (h:m.Ok)(w:List Int):(bQ m w).length=m.n:=by
 rcases List.eq_nil_or_concat w with rfl|⟨w,x,rfl⟩
 .exact h.ini
 .rw[List.concat_eq_append,lW,EW]
theorem O8 (m:dZ)(s:Nat):Y7 m.n m.n λu j=>aW (λi=>u i*sG m s i j) m.n :=
 ⟨λu v h j _=>aJ λi hi=>by rw[h i hi],λu v c j _=>by
  rw[<- jf,<- qG];exact aJ λi _=>by rw[Rat.add_mul,Rat.mul_assoc],λj _=>lV λi _=>Rat.zero_mul _⟩
theorem Eb (n:Nat)(f:Nat->Rat):Y7 n 1 λu _=>Bl n u f :=
 ⟨λu v h _ _=>aJ λi hi=>by rw[h i hi],λu v c _ _=>by
  unfold Bl;rw[<- jf,<- qG];exact aJ λi _=>by rw[Rat.add_mul,Rat.mul_assoc],λ_ _=>lV λi _=>Rat.zero_mul _⟩
theorem Bo {v:List Rat}{s j:Nat}(hj:j<m.n):(stepM m v s).getD j 0=aW (λi=>v.getD i 0*sG m s i j) m.n:=aK _ _ hj
theorem xA (a:List Int):mY a a=0:=by unfold mY;rw[if_neg (by omega),II]
theorem EX (a b:List Int):mY b a = -mY a b:=by
 unfold mY;by_cases h:a.length=b.length
 .rw[if_neg (show ¬ b.length≠a.length by omega),if_neg (show ¬ a.length≠b.length by omega)];exact TM a b
 .rw[if_pos (show b.length≠a.length by omega),if_pos (show a.length≠b.length by omega)]
  by_cases h1:a.length<b.length
  .rw[if_pos h1,if_neg (show ¬ b.length<a.length by omega)];rfl
  .rw[if_neg h1,if_pos (show b.length<a.length by omega)]
theorem MB (h:mY a b=0):a=b:=by
 unfold mY at h
 split at h
 .split at h <;> cases h
 .exact O7 h
theorem EY (h:mY a b<=0)(k:mY b c<=0):mY a c<=0:=by
 unfold mY at *;by_cases h1:a.length=b.length
 .by_cases h2:b.length=c.length
  .rw[if_neg (by omega)] at h k ⊢
   exact Md h k
  .rw[if_pos (by omega)] at k ⊢
   split at k
   .rw[if_pos (by omega)];decide
   .exact absurd k (by decide)
 .rw[if_pos (by omega)] at h
  split at h
  .by_cases h2:b.length=c.length
   .rw[if_pos (by omega),if_pos (by omega)];decide
   .rw[if_pos (by omega)] at k
    split at k
    .rw[if_pos (by omega),if_pos (by omega)];decide
    .exact absurd k (by decide)
  .exact absurd h (by decide)
theorem yc (h:mY a b<0)(k:mY b c<=0):mY a c<0:=by
 have h1:=EY (Int.le_of_lt h) k;have h2:mY a c≠0:=λe=>by
  have:=MB e;subst this;have:=EX a b;omega
 omega
theorem Hg (h:mY a b<=0):a.length<=b.length:=by
 unfold mY at h
 split at h
 .split at h
  .omega
  .exact absurd h (by decide)
 .omega
theorem Bq (h:a.length<b.length):mY a b<0:=by
 unfold mY;rw[if_pos (by omega),if_pos h];decide
theorem TN {x:Int}(h:mY a b<=0):mY (a++[x]) (b++[x])<=0:=by
 have hl:=Hg h;unfold mY at *;rw[iU,iU];by_cases h1:a.length=b.length
 .rw[if_neg (by omega)] at h ⊢
  rw[Me h1];exact h
 .rw[if_pos (by omega),if_pos (by simp only[jL];omega)];decide
theorem JE {x y:Int}(h:mY a b<0):mY (a++[x]) (b++[y])<0:=by
 have hl:=Hg (Int.le_of_lt h);unfold mY at *;rw[iU,iU];by_cases h1:a.length=b.length
 .rw[if_neg (by omega)] at h
  rw[if_neg (by simp only[jL];omega),EU h1,if_neg (by omega)];exact h
 .rw[if_pos (by simp only[jL];omega),if_pos (by simp only[jL];omega)];decide
theorem TP (k:Nat)(w:List Int):(dh k w).Pairwise λa b=>mY a b<0:=by
 unfold dh;refine List.pairwise_map.2 (List.pairwise_lt_range.imp λ{a b} h=>?_);unfold mY;rw[if_neg (by simp),EU rfl,if_pos (II w),if_pos (by omega)];decide
theorem rf {k:Nat}:a ∈ dh k w ↔ ∃ s,s<k/\a=w++[((s+1:Nat):Int)]:=by
 unfold dh;rw[List.mem_map];exact⟨λ⟨s,h,e⟩=>⟨s,List.mem_range.1 h,e.symm⟩,λ⟨s,h,e⟩=>⟨s,List.mem_range.2 h,e.symm⟩⟩
def vV (m:dZ)(K:List (List Int)):List (List Rat):=K.map (bQ m)
def upTo (K:List (List Int))(v:List Int):List (List Int):=K.filter λu=>decide (mY u v<=0)
theorem eY {K:List (List Int)}{v:List Int}:u ∈ upTo K v ↔ u ∈ K/\mY u v<=0:=by
 unfold upTo;rw[List.mem_filter,decide_eq_true_eq]
structure O9 (m:dZ) (V K Q:List (List Int)):Prop where
 sub:∀ u,u ∈ K->u ∈ V
 root:[] ∈ V \/ [] ∈ Q
 kids:∀ u,u ∈ K->∀ s,s<m.k->u++[((s+1:Nat):Int)] ∈ V \/ u++[((s+1:Nat):Int)] ∈ Q
 span:∀ v,v ∈ V->bK m.n (vV m (upTo K v)) (vf (bQ m v))
 ord:(V++Q).Pairwise λa b=>mY a b<0
 par:∀ q,q ∈ Q->q=[] \/ ∃ u,u ∈ K/\∃ s,s<m.k/\q=u++[((s+1:Nat):Int)]
 xB:∀ v,v ∈ V \/ v ∈ Q->iV m.k v
theorem O9.start (m:dZ):O9 m [] [] [[]] :=
 ⟨λ_ h=>(by cases h),.inr (List.mem_singleton.2 rfl),λ_ h=>(by cases h),λ_ h=>(by cases h),List.pairwise_singleton ..,λq h=>.inl (kJ h),λv h x hx=>by
  rcases h with h|h
  .cases h
  .rw[kJ h] at hx;cases hx⟩
theorem O9.reach {V K Q:List (List Int)}(h:O9 m V K Q):∀ (w:List Int),iV m.k w->(∀ q,q ∈ Q->mY w q<0)->bK m.n (vV m (upTo K w)) (vf (bQ m w)):=by
 intro w
 induction hl:w.length generalizing w with
 | zero =>
  intro _ hq;have e:=Gt hl;subst e;rcases h.root with h1|h1
  .exact h.span _ h1
  .have:=hq _ h1;rw[xA] at this;exact absurd this (by decide)
 | succ n ih =>
  intro hw hq;have hne:w≠[]:=λe=>by subst e;cases hl
  obtain⟨y,x,rfl⟩:∃ y x,w=y++[x]:=⟨w.dropLast,w.getLast hne,(List.dropLast_concat_getLast hne).symm⟩;have hx:=hw x (by simp)
  have hy:iV m.k y:=λz hz=>hw z (List.mem_append.2 (.inl hz));have hyl:y.length=n:=by rw[iU,jL] at hl;omega
  have hyx:mY y (y++[x])<0:=Bq (by rw[iU,jL];omega)
  have hs:=ih y hyl hy λq hq'=>yc hyx (Int.le_of_lt (hq q hq'));rw[lW];have hmap:=bK.map (O8 m (x.toNat-1)) hs (C:=vV m (upTo K (y++[x]))) λb hb=>by
   obtain⟨u,hu,rfl⟩:=jY hb;obtain⟨hu1,hu2⟩:=eY.1 hu;have hux:u++[x] ∈ V:=by
    have:=h.kids u hu1 (x.toNat-1) (by omega)
    rw[show ((x.toNat-1+1:Nat):Int)=x by omega] at this
    refine this.resolve_right λk=>?_;have a:=hq _ k;have b:=TN (x:=x) hu2;have c:=EX (u++[x]) (y++[x]);omega
   have hsp:=h.span _ hux;rw[lW] at hsp;refine (hsp.congr (v:=λj=>aW (λi=>vf (bQ m u) i*sG m (x.toNat-1) i j) m.n) λj hj=>(Bo hj).symm).mono λb hb=>?_;obtain⟨z,hz,rfl⟩:=jY hb;obtain⟨hz1,hz2⟩:=eY.1 hz;exact List.mem_map.2 ⟨z,eY.2 ⟨hz1,EY hz2 (TN hu2)⟩,rfl⟩
  exact hmap.congr λj hj=>Bo hj
theorem Pg {K:List (List Int)}{v x:List Int}(hu:u ∈ upTo K v):u ∈ upTo (K++[x]) v :=
 eY.2 ⟨List.mem_append.2 (.inl (eY.1 hu).1),(eY.1 hu).2⟩
theorem O9.head {V K Q:List (List Int)}(h:O9 m V K (w::Q)):(∀ v,v ∈ V->mY v w<0)/\(∀ q,q ∈ Q->mY w q<0):=by
 obtain⟨_,h2,h3⟩:=List.pairwise_append.1 h.ord;exact⟨λv hv=>h3 v hv w vC,(List.pairwise_cons.1 h2).1⟩
theorem O9.drop {V K Q:List (List Int)}(h:O9 m V K (w::Q))(hs:bK m.n (vV m K) (vf (bQ m w))):O9 m (V++[w]) K Q:=by
 have e:V++w::Q=(V++[w])++Q:=by simp
 refine⟨λu hu=>List.mem_append.2 (.inl (h.sub u hu)),?_,λu hu s hs'=>?_,λv hv=>?_,by rw[<- e];exact h.ord,λq hq=>h.par q (List.mem_cons_of_mem _ hq),λv hv=>?_⟩
 .rcases h.root with h1|h1
  .exact .inl (List.mem_append.2 (.inl h1))
  .rcases List.mem_cons.1 h1 with h1|h1
   .exact .inl (List.mem_append.2 (.inr (List.mem_singleton.2 h1)))
   .exact .inr h1
 .rcases h.kids u hu s hs' with h1|h1
  .exact .inl (List.mem_append.2 (.inl h1))
  .rcases List.mem_cons.1 h1 with h1|h1
   .exact .inl (List.mem_append.2 (.inr (List.mem_singleton.2 h1)))
   .exact .inr h1
 .rcases rD hv with hv|hv
  .exact h.span v hv
  .rw[kJ hv];refine hs.mono λb hb=>?_;obtain⟨u,hu,rfl⟩:=jY hb;exact List.mem_map.2 ⟨u,eY.2 ⟨hu,Int.le_of_lt (h.head.1 u (h.sub u hu))⟩,rfl⟩
 .refine h.xB v (hv.elim (λhv=>?_) λhv=>.inr (List.mem_cons_of_mem _ hv));exact (rD hv).imp id λhv=>List.mem_cons.2 (.inl (kJ hv))
theorem O9.keep {V K Q:List (List Int)}(h:O9 m V K (w::Q)):O9 m (V++[w]) (K++[w]) (Q++dh m.k w):=by
 have hd:=h.head;refine⟨λu hu=>?_,?_,λu hu s hs'=>?_,λv hv=>?_,?_,λq hq=>?_,λv hv=>?_⟩
 .exact (rD hu).elim (λhu=>List.mem_append.2 (.inl (h.sub u hu))) λhu=>List.mem_append.2 (.inr hu)
 .rcases h.root with h1|h1
  .exact .inl (List.mem_append.2 (.inl h1))
  .rcases List.mem_cons.1 h1 with h1|h1
   .exact .inl (List.mem_append.2 (.inr (List.mem_singleton.2 h1)))
   .exact .inr (List.mem_append.2 (.inl h1))
 .rcases rD hu with hu|hu
  .rcases h.kids u hu s hs' with h1|h1
   .exact .inl (List.mem_append.2 (.inl h1))
   .rcases List.mem_cons.1 h1 with h1|h1
    .exact .inl (List.mem_append.2 (.inr (List.mem_singleton.2 h1)))
    .exact .inr (List.mem_append.2 (.inl h1))
  .rw[kJ hu];exact .inr (List.mem_append.2 (.inr (rf.2 ⟨s,hs',rfl⟩)))
 .rcases rD hv with hv|hv
  .exact (h.span v hv).mono λb hb=>by
    obtain⟨u,hu,rfl⟩:=jY hb;exact List.mem_map.2 ⟨u,Pg hu,rfl⟩
  .rw[kJ hv];exact .mem (List.mem_map.2 ⟨w,eY.2 ⟨List.mem_append.2 (.inr (List.mem_singleton.2 rfl)),by rw[xA];exact Int.le_refl _⟩,rfl⟩)
 .rw[show (V++[w])++(Q++dh m.k w)=(V++w::Q)++dh m.k w by simp]
  refine List.pairwise_append.2 ⟨h.ord,TP m.k w,λa ha b hb=>?_⟩;obtain⟨s,_,rfl⟩:=rf.1 hb;have hwb:mY w (w++[((s+1:Nat):Int)])<0:=Bq (by rw[iU,jL];omega)
  rcases rD ha with ha|ha
  .exact yc (hd.1 a ha) (Int.le_of_lt hwb)
  .rcases List.mem_cons.1 ha with rfl|ha
   .exact hwb
   .rcases h.par a (List.mem_cons_of_mem _ ha) with rfl|⟨u,hu,t,_,rfl⟩
    .exact Bq (by rw[iU,jL];show 0<_;omega)
    .exact JE (hd.1 u (h.sub u hu))
 .rcases rD hq with hq|hq
  .exact (h.par q (List.mem_cons_of_mem _ hq)).imp id λ⟨u,hu,r⟩=>⟨u,List.mem_append.2 (.inl hu),r⟩
  .obtain⟨s,hs',rfl⟩:=rf.1 hq;exact .inr ⟨w,List.mem_append.2 (.inr (List.mem_singleton.2 rfl)),s,hs',rfl⟩
 .have hw:=h.xB w (.inr vC);rcases hv with hv|hv
  .rcases rD hv with hv|hv
   .exact h.xB v (.inl hv)
   .rw[kJ hv];exact hw
  .rcases rD hv with hv|hv
   .exact h.xB v (.inr (List.mem_cons_of_mem _ hv))
   .obtain⟨s,hs',rfl⟩:=rf.1 hv;intro x hx;rcases rD hx with hx|hx
    .exact hw x hx
    .rw[kJ hx];omega
def FN (m:dZ)(K:List (List Int)):Prop:=∀ u,u ∈ K->wW m u=0
theorem O9.zero {V K Q:List (List Int)}(h:O9 m V K Q)(hz:FN m K)(hw:iV m.k w)(hq:∀ q,q ∈ Q->mY w q<0):wW m w=0:=by
 refine (h.reach w hw hq).kill (L:=λu _=>Bl m.n u (vf m.fin)) (Eb m.n (vf m.fin)) λb hb=>?_;obtain⟨u,hu,rfl⟩:=jY hb;exact hz u (eY.1 hu).1
structure Dn (m:dZ) (w:List Int):Prop where
 xB:iV m.k w
 nz:wW m w≠0
 before:∀ u,iV m.k u->mY u w<0->wW m u=0
theorem Dn.unique {v:List Int}(h:Dn m w)(k:Dn m v):w=v:=by
 refine MB (Decidable.byContradiction λhne=>?_);have:=EX w v;rcases Int.lt_or_gt_of_ne hne with h1|h1
 .exact h.nz (k.before w h.xB h1)
 .exact k.nz (h.before v k.xB (by omega))
theorem O9.first {V K Q:List (List Int)}(h:O9 m V K (w::Q))(hz:FN m K)(hn:wW m w≠0):Dn m w :=
 ⟨h.xB w (.inr vC),hn,λu hu hl=>h.zero hz hu λq hq=>by
  rcases List.mem_cons.1 hq with rfl|hq
  .exact hl
  .exact yc hl (Int.le_of_lt (h.head.2 q hq))⟩
theorem O9.none {V K:List (List Int)}(h:O9 m V K [])(hz:FN m K)(w:List Int)(hw:iV m.k w):wW m w=0:=h.zero hz hw λq hq=>by cases hq

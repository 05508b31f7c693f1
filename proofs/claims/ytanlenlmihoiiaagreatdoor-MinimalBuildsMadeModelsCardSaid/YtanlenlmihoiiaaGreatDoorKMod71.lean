/-
  M, chapters 23 and 24: machines over the rational numbers, explored word by word in shortlex order.
-/
import Derived.Test.YtanlenlmihoiiaaGreatDoorKMod40c
set_option linter.unusedVariables false
set_option linter.unusedSimpArgs false
namespace Go.AL
open Go Go.BigFrame
theorem aJ {f g:Nat->Rat}:∀ {n:Nat},(∀ i,i<n->f i=g i)->bD f n=bD g n
 | 0,_=>rfl
 | n+1,h=>by rw[bD,bD,aJ λi hi=>h i (by omega),h n (Nat.lt_succ_self n)]
theorem kR {f:Nat->Rat}:∀ {n:Nat},(∀ i,i<n->f i=0)->bD f n=0
 | 0,_=>rfl
 | n+1,h=>by rw[bD,kR λi hi=>h i (by omega),h n (Nat.lt_succ_self n)];grind
theorem pq (f g:Nat->Rat):∀ n,bD (λi=>f i+g i) n=bD f n+bD g n
 | 0=>by rw[bD,bD,bD];grind
 | n+1=>by rw[bD,bD,bD,pq f g n];grind
theorem tN (f:Nat->Rat)(c:Rat):∀ n,bD (λi=>f i*c) n=bD f n*c
 | 0=>by rw[bD,bD,Rat.zero_mul]
 | n+1=>by rw[bD,bD,tN f c n,Rat.add_mul]
theorem iq (f:Nat->Rat)(c:Rat)(n:Nat):bD (λi=>c*f i) n=c*bD f n:=by
 rw[Rat.mul_comm,<- tN];exact aJ λi _=>Rat.mul_comm ..
theorem KN (f:Nat->Rat)(c:Rat)(n:Nat):bD (λi=>f i / c) n=bD f n / c:=by
 rw[Rat.div_def,<- tN];exact aJ λi _=>Rat.div_def ..
theorem pz (f:Nat->Nat->Rat)(m:Nat):∀ n,bD (λi=>bD (λj=>f i j) m) n=bD (λj=>bD (λi=>f i j) n) m
 | 0=>by rw[bD];exact (kR λ_ _=>rfl).symm
 | n+1=>by
  rw[bD,pz f m n,<- pq];exact aJ λj _=>rfl
theorem O6 (f:Nat->Rat):∀ n,f 0+bD (λt=>f (t+1)) n=bD f (n+1)
 | 0=>by rw[bD,bD,bD];grind
 | n+1=>by rw[bD,bD,<- O6 f n];grind
theorem ay7 {h:HM}{w:List Int}{t d:Nat}(ht:d+1+t+1=w.length):bD (λi=>(F5 h w t).getD i 0*(OY h w (d+1)).getD i 0) h.st=bD (λj=>(F5 h w (t+1)).getD j 0*(OY h w d).getD j 0) h.st:=by
 have e1:∀ i,i<h.st->(F5 h w t).getD i 0*(OY h w (d+1)).getD i 0=bD (λj=>(F5 h w t).getD i 0*trQ h i j*(emQ h j (Hw w (t+1))*(OY h w d).getD j 0)) h.st:=λi hi=>by
  rw[ab8 (d:=d+1) (a:=t) (by omega) (by omega) hi,aO5,<- iq]
  exact aJ λj _=>by rw[show d+1-1=d from rfl,Rat.mul_assoc]
 rw[aJ e1,pz];refine aJ λj hj=>?_;rw[tN,ab7 (t:=t+1) (by omega) hj,show t+1-1=t from rfl,ay3,Rat.mul_assoc]
theorem ay8 {h:HM}{w:List Int}:∀ {d t:Nat},d+t+1=w.length->bD (λi=>(F5 h w t).getD i 0*(OY h w d).getD i 0) h.st=OZ h w
 | 0,t,ht=>by
  rw[show OZ h w=aO6 h (F5 h w (w.length-1)) h.st from if_neg (by omega),aO6,show w.length-1=t by omega]
  exact aJ λi hi=>by rw[ay4 hi]
 | d+1,t,ht=>by
  rw[ay7 (by omega)]
  exact ay8 (by omega)
theorem ay9 {h:HM}{w:List Int}{t:Nat}(ht:t<w.length)(hz:OZ h w≠0):bD (λi=>wU h w t i) h.st=1:=by
 unfold wU;rw[KN,ay8 (by omega),Rat.div_def,Rat.mul_inv_cancel _ hz]
theorem bc6 {h:HM}{w:List Int}{t i:Nat}(ht:t+1<w.length)(hi:i<h.st):bD (λj=>xiQ h w t i j) h.st=wU h w t i:=by
 unfold xiQ wU;rw[KN,ab8 (d:=w.length-1-t) (a:=t) (by omega) (by omega) hi,aO5,<- iq,show w.length-1-(t+1)=w.length-1-t-1 by omega]
 congr 1;exact aJ λj _=>Rat.mul_assoc ..
theorem bc7 {h:HM}{w:List Int}{t j:Nat}(hj:j<h.st):bD (λi=>xiQ h w t i j) h.st=wU h w (t+1) j:=by
 unfold xiQ wU;rw[KN,tN,ab7 (t:=t+1) (by omega) hj,show t+1-1=t from rfl,ay3,Rat.mul_assoc]
theorem vO {v:Nat->Rat}{x n:Nat}(hx:x<n):bD (λy=>if x=y then v y else 0) n=v x:=by
 induction n with
 | zero=>omega
 | succ n ih =>
  rw[bD];by_cases hn:x=n
  .rw[if_pos hn,hn,kR λi hi=>if_neg (by omega)];grind
  .rw[if_neg hn,ih (by omega)];grind
theorem Wj {h:HM}{w:List Int}{i:Nat}:∀ {n:Nat},(∀ t,t<n->Hw w t<h.sym)->bD (λx=>aY8 h w n i x) h.sym=bD (λt=>wU h w t i) n
 | 0,_=>kR λ_ _=>rfl
 | n+1,hx=>by
  rw[bD,<- Wj λt ht=>hx t (by omega)]
  rw[<- vO (v:=λ_=>wU h w n i) (hx n (Nat.lt_succ_self n)),<- pq];exact aJ λx _=>rfl
theorem az0 {h:HM}{w:List Int}{i:Nat}(hi:i<h.st):∀ {n:Nat},n<w.length->bD (λj=>O4 h w n i j) h.st+wU h w n i=bD (λt=>wU h w t i) (n+1):=λ{n} hn=>by
 rw[bD];congr 1;unfold O4;rw[pz];exact aJ λt ht=>bc6 (by omega) hi
theorem az1 {h:HM}{w:List Int}{i n:Nat}(hi:i<h.st):wU h w 0 i+bD (λj=>O4 h w n j i) h.st=bD (λt=>wU h w t i) (n+1):=by
 rw[<- O6];congr 1;unfold O4;rw[pz];exact aJ λt _=>bc7 hi
def az2 (l:List Rat):Rat:=bD (λi=>l.getD i 0) l.length
theorem O7 {f:Nat->Rat}(n:Nat):az2 ((List.range n).map f)=bD f n:=by
 unfold az2;rw[dA,List.length_range];exact aJ λi hi=>aT _ _ hi
structure Fit (h:HM) (w:List Int):Prop where
 row:∀ t,t<w.length->az2 (O0 h w t)=1
 bH5:∀ i,az2 (UE h w w.length i)=bD (λt=>wU h w t i) w.length
 out:∀ i,i<h.st->az2 (moveRow h w (w.length-1) i)+wU h w (w.length-1) i=bD (λt=>wU h w t i) w.length
 into:∀ i,i<h.st->wU h w 0 i+bD (λj=>O4 h w (w.length-1) j i) h.st=bD (λt=>wU h w t i) w.length
theorem fit {h:HM}{w:List Int}(hx:∀ t,t<w.length->Hw w t<h.sym)(hz:OZ h w≠0)(hn:w.length≠0):Fit h w :=
 ⟨λt ht=>(O7 _).trans (ay9 ht hz),λi=>(O7 _).trans (Wj hx),
  λi hi=>by rw[show moveRow h w (w.length-1) i=(List.range h.st).map λj=>O4 h w (w.length-1) i j from rfl,O7,az0 hi (by omega),show w.length-1+1=w.length by omega],
  λi hi=>by rw[az1 hi,show w.length-1+1=w.length by omega]⟩
structure Got (h:HM) (w:List Int):Prop where
 pl:(aY7 h w).length=w.length
 pg:∀ t,t<w.length->(aY7 h w).getD t []=O0 h w t
 sS:exS h w=O0 h w 0
 sE:exE h w=O0 h w (w.length-1)
 lM:(exM h w).length=h.st
 lO:(exO h w).length=h.st
 gM:∀ i,i<h.st->(exM h w).getD i []=moveRow h w (w.length-1) i
 gO:∀ i,i<h.st->(exO h w).getD i []=UE h w w.length i
def oD {α:Type}(f:α->Rat):List α->Rat
 | []=>0
 | x::r=>f x+oD f r
theorem MI {α:Type}(f:α->Rat):∀ a b:List α,oD f (a++b)=oD f a+oD f b
 | [],b=>by rw[List.nil_append,oD,Rat.zero_add]
 | x::a,b=>by rw[List.cons_append,oD,oD,MI f a b,Rat.add_assoc]
theorem Wl {α β:Type}(f:β->Rat)(g:α->β):∀ l:List α,oD f (l.map g)=oD (λx=>f (g x)) l
 | []=>rfl
 | x::l=>by rw[List.map_cons,oD,Wl f g l];rfl
theorem O8 {α:Type}{f g:α->Rat}:∀ {l:List α},(∀ x,x ∈ l->f x=g x)->oD f l=oD g l
 | [],_=>rfl
 | x::l,h=>by rw[oD,oD,h x pU,O8 λy hy=>h y (List.mem_cons_of_mem _ hy)]
def UF (n:Nat):Nat->List (List Int)
 | 0=>[[]]
 | k+1=>(UF n k).flatMap λp=>(List.range n).map λ(s:Nat)=>p++[(s:Int)]
def atP (p:List Int)(t:Nat):Nat:=(p.getD t 0).toNat
def wgt (h:HM)(w:List Int)(p:List Int):Nat->Rat
 | 0=>h.ini.getD (atP p 0) 0
 | t+1=>(if t=0 then wgt h w p t else wgt h w p t*trQ h (atP p (t-1)) (atP p t))*emQ h (atP p t) (Hw w t)
def bn3 (h:HM)(p:Nat->Bool)(g:Nat->Rat):List Rat:=(List.range h.st).map λi=>if p i=true then g i else 0
def az3 (h:HM)(w:List Int)(p:Nat->Nat->Bool):Nat->List Rat
 | 0=>bn3 h (p (w.length-1)) λi=>h.stop.getD i 0
 | d+1=>bn3 h (p (w.length-1-(d+1))) λi=>(UC h (i:Nat) (Hw w (w.length-1-d)) (az3 h w p d) h.st).1
def bn4 (h:HM)(w:List Int)(p:Nat->Nat->Bool)(fr:Int)(t:Nat):Rat × Nat:=UC h fr (Hw w t) (az3 h w p (w.length-1-t)) h.st
def toG (h:HM)(w:List Int)(p:Nat->Nat->Bool):Nat->Int
 | 0=>-1
 | t+1=>((bn4 h w p (toG h w p t) t).2:Nat)
def bn5 (h:HM)(w:List Int)(p:Nat->Nat->Bool)(t:Nat):List Int:=(List.range t).map λi=>toG h w p (i+1)
def aY9 (h:HM)(w:List Int)(p:Nat->Nat->Bool):Rat:=(bn4 h w p (-1) 0).1
def every:Nat->Nat->Bool:=λ_ _=>true
structure bv9 (h:HM) (fr:Int) (x:Nat) (rest:List Rat) (n:Nat) (r:Rat × Nat):Prop where
 nonneg:0<=r.1
 le:∀ i,i<n->ay2 h fr x rest i<=r.1
 zero:r.1=0->r.2=0
 lt:0<r.1->r.2<n
 eq:0<r.1->ay2 h fr x rest r.2=r.1
 least:0<r.1->∀ i,i<r.2->ay2 h fr x rest i<r.1
def bn6 (h:HM)(w:List Int)(p:Nat->Nat->Bool):Rat:=if w.length=0 then h.empty else aY9 h w p
def bA7 (h:HM)(w:List Int)(p:Nat->Nat->Bool):List Int:=if w.length=0 \/ aY9 h w p=0 then [] else bn5 h w p w.length
def bA8 (h:HM)(w:List Int)(p:Nat->Nat->Bool):Int:=if bn6 h w p=0 then 11 else 0
def bA9 (sets:List Int)(t:Nat):Nat:=if t<sets.length then (within (sets.getD t 0) 8).toNat else 7
def bn7 (x s:Nat):Bool:=decide (x / 2 ^ s % 2=1)
def rowA (x n:Nat):List Int:=((List.range n).filter λs=>bn7 x s).map λs:Nat=>(s:Int)
def bn8 (h:HM)(w sets:List Int)(n:Nat):Prop:=bA8 h w every=0/\∀ t,t<n->bn7 (bA9 sets t) ((bA7 h w every).getD t 0).toNat=true
instance (h:HM) (w sets:List Int) (n:Nat):Decidable (bn8 h w sets n):=inferInstanceAs (Decidable (_/\_))
def cmpL:List Int->List Int->Int
 | [],[]=>0
 | [],_::_=>-1
 | _::_,[]=>1
 | a::x,b::y=>if a<b then -1 else if b<a then 1 else cmpL x y
theorem KO:∀ x:List Int,cmpL x x=0
 | []=>rfl
 | a::x=>by rw[cmpL,if_neg (by omega),if_neg (by omega),KO x]
theorem Wn:∀ x y:List Int,cmpL y x = -cmpL x y
 | [],[]=>rfl
 | [],_::_=>rfl
 | _::_,[]=>rfl
 | a :: x, b :: y => by
  rw[cmpL,cmpL,Wn x y];by_cases h1:a<b
  .rw[if_neg (by omega),if_pos h1,if_pos h1];rfl
  .rw[if_neg h1];by_cases h2:b<a
   .rw[if_pos h2,if_neg h1,if_pos h2]
   .rw[if_neg h2,if_neg h2,if_neg h1]
theorem RP:∀ {x y:List Int},cmpL x y=0->x=y
 | [],[],_=>rfl
 | [],_::_,h=>by rw[cmpL] at h;exact absurd h (by decide)
 | _::_,[],h=>by rw[cmpL] at h;exact absurd h (by decide)
 | a :: x, b :: y, h => by
  rw[cmpL] at h;by_cases h1:a<b
  .rw[if_pos h1] at h;exact absurd h (by decide)
  .rw[if_neg h1] at h;by_cases h2:b<a
   .rw[if_pos h2] at h;exact absurd h (by decide)
   .rw[if_neg h2] at h;rw[RP h,show a=b by omega]
theorem O9:∀ {x y z:List Int},cmpL x y<=0->cmpL y z<=0->cmpL x z<=0
 | [],_,[],_,_=>by rw[cmpL];decide
 | [],_,_::_,_,_=>by rw[cmpL];decide
 | _::_,[],_,h,_=>by rw[cmpL] at h;exact absurd h (by decide)
 | _::_,_::_,[],_,h=>by rw[cmpL] at h;exact absurd h (by decide)
 | a :: x, b :: y, c :: z, h1, h2 => by
  rw[cmpL] at h1 h2 ⊢;by_cases hab:a<b
  .by_cases hcb:c<b
   .rw[if_neg (by omega),if_pos hcb] at h2;exact absurd h2 (by decide)
   .rw[if_pos (by omega)];decide
  .rw[if_neg hab] at h1;by_cases hba:b<a
   .rw[if_pos hba] at h1;exact absurd h1 (by decide)
   .rw[if_neg hba] at h1;by_cases hbc:b<c
    .rw[if_pos (by omega)];decide
    .rw[if_neg hbc] at h2;by_cases hcb:c<b
     .rw[if_pos hcb] at h2;exact absurd h2 (by decide)
     .rw[if_neg hcb] at h2;rw[if_neg (by omega),if_neg (by omega)]
      exact O9 h1 h2
theorem GR {a b:Int}:∀ {x y:List Int},x.length=y.length->cmpL (x++[a]) (y++[b])=if cmpL x y=0 then (if a<b then -1 else if b<a then 1 else 0) else cmpL x y
 | [],[],_=>by rw[List.nil_append,List.nil_append,cmpL,cmpL,if_pos rfl,cmpL]
 | [],_::_,h=>by simp at h
 | _::_,[],h=>by simp at h
 | c :: x, d :: y, h => by
  rw[List.cons_append,List.cons_append,cmpL,cmpL,GR (by simpa using h)]
  by_cases h1:c<d
  .rw[if_pos h1,if_pos h1,if_neg (by decide)]
  .rw[if_neg h1,if_neg h1];by_cases h2:d<c
   .rw[if_pos h2,if_pos h2,if_neg (by decide)]
   .rw[if_neg h2,if_neg h2]
theorem Pg {a:Int}{x y:List Int}(h:x.length=y.length):cmpL (x++[a]) (y++[a])=cmpL x y:=by
 rw[GR h]
 split
 .rename_i e;rw[if_neg (by omega),if_neg (by omega),e]
 .rfl
section
variable {h:HM}{bb B:Nat}{u:List Int}
def follow (h:HM)(u:List Int)(s i:Nat):Rat:=(az3 h u every (u.length-1-s)).getD i 0
end
def bc9:List Int->List Int->Nat
 | a::x,b::y=>if a=b then bc9 x y+1 else 0
 | _,_=>0
def ak4 (al:Nat->Bool)(ps:Nat->List Int):Nat->Int × List Int
 | 0=>(-1,[])
 | i + 1 => if al i = true then
   (if (ak4 al ps i).1<0 then (((min (ps i).length (bc9 (ps i) (ps i)):Nat):Int),ps i) else (((min (ak4 al ps i).1.toNat (bc9 (ps i) (ak4 al ps i).2):Nat):Int),(ak4 al ps i).2)) else ak4 al ps i
structure bw0 (al:Nat->Bool) (ps:Nat->List Int) (n:Nat) (c:Int × List Int):Prop where
 none:(∀ i,i<n->al i=false)->c=(-1,[])
 some:(∃ i,i<n/\al i=true)->0<=c.1/\(∃ i,i<n/\al i=true/\c.2=ps i)/\(∀ i,i<n->al i=true->c.1.toNat<=(ps i).length/\(ps i).take c.1.toNat=c.2.take c.1.toNat) /\
  ∀ m,(∀ i,i<n->al i=true->m<=(ps i).length/\(ps i).take m=c.2.take m)->m<=c.1.toNat
structure Dec where
 t:Nat
 sc:List Rat
 tl:List (List Int)
 dn:List Int
def ab9 (x:Rat)(y:List Int)(m:Rat × List Int):Prop:=m.1<x \/ (x=m.1/\0<x/\cmpL y m.2<0)
instance (x:Rat) (y:List Int) (m:Rat × List Int):Decidable (ab9 x y m):=by unfold ab9;infer_instance
def az4 (h:HM)(o:Dec)(j i:Nat):Rat:=o.sc.getD i 0*trQ h i j
section
variable {h:HM}{bb B:Nat}{u:List Int}{o:Dec}
structure bn9 (h:HM) (u:List Int) (t:Nat) (S:Nat->Rat) (Q:Nat->List Int):Prop where
 nonneg:∀ j,j<h.st->0<=S j
 max:∀ p,p ∈ UF h.st t->wgt h u p t<=S (atP p (t-1))
 live:∀ j,j<h.st->0<S j->Q j ∈ UF h.st t/\atP (Q j) (t-1)=j/\wgt h u (Q j) t=S j/\∀ p,p ∈ UF h.st t->atP p (t-1)=j->wgt h u p t=S j->cmpL (Q j) p<=0
structure bM1 (h:HM) (u:List Int) (o:Dec):Prop where
 le:o.t<=u.length
 zero:o.t=0->o.sc=[]/\o.tl=[]/\o.dn=[]
 len:o.t≠0->o.sc.length=h.st/\o.tl.length=h.st
 heads:o.t≠0->bn9 h u o.t (λj=>o.sc.getD j 0) λj=>o.dn++o.tl.getD j []
 dead:∀ j,¬ 0<o.sc.getD j 0->o.tl.getD j []=[]
 some:o.t≠0->∃ j,j<h.st/\0<o.sc.getD j 0
 com:o.t≠0->(ak4 (λj=>decide (0<o.sc.getD j 0)) (λj=>o.tl.getD j []) h.st).1=0
 small:Small (1+2048*o.t) o.sc
structure bo0 (h:HM) (o:Dec) (j n:Nat) (m:Rat × List Int):Prop where
 nonneg:0<=m.1
 le:∀ i,i<n->az4 h o j i<=m.1
 pos:0<m.1->∃ i,i<n/\m=(az4 h o j i,o.tl.getD i [])
 least:0<m.1->∀ i,i<n->az4 h o j i=m.1->cmpL m.2 (o.tl.getD i [])<=0
end
def bd0 (h:HM)(o:Dec)(i:Nat):Rat:=o.sc.getD i 0*h.stop.getD i 0
structure bw1 (h:HM) (o:Dec) (n:Nat) (m:Rat × List Int):Prop where
 nonneg:0<=m.1
 le:∀ i,i<n->bd0 h o i<=m.1
 pos:0<m.1->∃ i,i<n/\m=(bd0 h o i,o.tl.getD i [])
 least:0<m.1->∀ i,i<n->bd0 h o i=m.1->cmpL m.2 (o.tl.getD i [])<=0
section
variable {h:HM}{bb B:Nat}{u:List Int}{o:Dec}
structure bw3 (ts:List Int) (n:Nat):Prop where
 ge:∀ s,s<ts.length->(s:Int)+1<=ts.getD s 0
 le:∀ s,s<ts.length->ts.getD s 0<=n
 mono:∀ s,s+1<ts.length->ts.getD s 0<=ts.getD (s+1) 0
end
structure bV where
 n:Nat
 ini:List Rat
 fin:List Rat
 jb:List (List (List Rat))
def bV.k (m:bV):Nat:=m.jb.length
def qJ (m:bV)(s i j:Nat):Rat:=((m.jb.getD s []).getD i []).getD j 0
def stepM (m:bV)(v:List Rat)(s:Nat):List Rat:=(List.range m.n).map λj=>bD (λi=>v.getD i 0*qJ m s i j) m.n
def bF (m:bV)(w:List Int):List Rat:=w.foldl (λv x=>stepM m v (x.toNat-1)) m.ini
def vX (n:Nat)(u v:Nat->Rat):Rat:=bD (λi=>u i*v i) n
def yH (m:bV)(w:List Int):Rat:=vX m.n (vf (bF m w)) (vf m.fin)
structure bV.Ok (m:bV):Prop where
 ini:m.ini.length=m.n
 fin:m.fin.length=m.n
def mG (a b:List Int):Int:=if a.length≠b.length then (if a.length<b.length then -1 else 1) else cmpL a b
def iV (k:Nat)(w:List Int):Prop:=∀ x,x ∈ w->1<=x/\x<=(k:Int)
def cu (k:Nat)(w:List Int):List (List Int):=(List.range k).map λs=>w++[((s+1:Nat):Int)]
section
variable {m:bV}{w u:List Int}{a b c:List Int}
theorem DT (m:bV)(v:List Rat)(s:Nat):(stepM m v s).length=m.n:=by simp[stepM]
theorem mY (x:Int):bF m (w++[x])=stepM m (bF m w) (x.toNat-1):=by unfold bF;rw[List.foldl_append];rfl
theorem jl (h:m.Ok)(w:List Int):(bF m w).length=m.n:=by
 rcases List.eq_nil_or_concat w with rfl|⟨w,x,rfl⟩
 .exact h.ini
 .rw[List.concat_eq_append,mY,DT]
theorem RQ (m:bV)(s:Nat):ay5 m.n m.n λu j=>bD (λi=>u i*qJ m s i j) m.n :=
 ⟨λu v h j _=>aJ λi hi=>by rw[h i hi],λu v c j _=>by
  rw[<- iq,<- pq];exact aJ λi _=>by rw[Rat.add_mul,Rat.mul_assoc],λj _=>kR λi _=>Rat.zero_mul _⟩
theorem F6 (n:Nat)(f:Nat->Rat):ay5 n 1 λu _=>vX n u f :=
 ⟨λu v h _ _=>aJ λi hi=>by rw[h i hi],λu v c _ _=>by
  unfold vX;rw[<- iq,<- pq];exact aJ λi _=>by rw[Rat.add_mul,Rat.mul_assoc],λ_ _=>kR λi _=>Rat.zero_mul _⟩
theorem DU {v:List Rat}{s j:Nat}(hj:j<m.n):(stepM m v s).getD j 0=bD (λi=>v.getD i 0*qJ m s i j) m.n:=aT _ _ hj
theorem Bo (a:List Int):mG a a=0:=by unfold mG;rw[if_neg (by omega),KO]
theorem E5 (a b:List Int):mG b a = -mG a b:=by
 unfold mG;by_cases h:a.length=b.length
 .rw[if_neg (show ¬ b.length≠a.length by omega),if_neg (show ¬ a.length≠b.length by omega)];exact Wn a b
 .rw[if_pos (show b.length≠a.length by omega),if_pos (show a.length≠b.length by omega)]
  by_cases h1:a.length<b.length
  .rw[if_pos h1,if_neg (show ¬ b.length<a.length by omega)];rfl
  .rw[if_neg h1,if_pos (show b.length<a.length by omega)]
theorem F7 (h:mG a b=0):a=b:=by
 unfold mG at h
 split at h
 .split at h <;> cases h
 .exact RP h
theorem DV (h:mG a b<=0)(k:mG b c<=0):mG a c<=0:=by
 unfold mG at *;by_cases h1:a.length=b.length
 .by_cases h2:b.length=c.length
  .rw[if_neg (by omega)] at h k ⊢
   exact O9 h k
  .rw[if_pos (by omega)] at k ⊢
   split at k
   .rw[if_pos (by omega)];decide
   .exact absurd k (by decide)
 .rw[if_pos (by omega)] at h
  split at h
  .by_cases h2:b.length=c.length
   .rw[if_pos (by omega),if_pos (by omega)];decide
   .rw[if_pos (by omega)] at k
    split at k
    .rw[if_pos (by omega),if_pos (by omega)];decide
    .exact absurd k (by decide)
  .exact absurd h (by decide)
theorem wV (h:mG a b<0)(k:mG b c<=0):mG a c<0:=by
 have h1:=DV (Int.le_of_lt h) k;have h2:mG a c≠0:=λe=>by
  have:=F7 e;subst this;have:=E5 a b;omega
 omega
theorem NI (h:mG a b<=0):a.length<=b.length:=by
 unfold mG at h
 split at h
 .split at h
  .omega
  .exact absurd h (by decide)
 .omega
theorem DW (h:a.length<b.length):mG a b<0:=by
 unfold mG;rw[if_pos (by omega),if_pos h];decide
theorem Wp {x:Int}(h:mG a b<=0):mG (a++[x]) (b++[x])<=0:=by
 have hl:=NI h;unfold mG at *;rw[jd,jd];by_cases h1:a.length=b.length
 .rw[if_neg (by omega)] at h ⊢
  rw[Pg h1];exact h
 .rw[if_pos (by omega),if_pos (by simp only[iY];omega)];decide
theorem Wq {x y:Int}(h:mG a b<0):mG (a++[x]) (b++[y])<0:=by
 have hl:=NI (Int.le_of_lt h);unfold mG at *;rw[jd,jd];by_cases h1:a.length=b.length
 .rw[if_neg (by omega)] at h
  rw[if_neg (by simp only[iY];omega),GR h1,if_neg (by omega)];exact h
 .rw[if_pos (by simp only[iY];omega),if_pos (by simp only[iY];omega)];decide
theorem az5 (k:Nat)(w:List Int):(cu k w).Pairwise λa b=>mG a b<0:=by
 unfold cu;refine List.pairwise_map.2 (List.pairwise_lt_range.imp λ{a b} h=>?_);unfold mG;rw[if_neg (by simp),GR rfl,if_pos (KO w),if_pos (by omega)];decide
theorem DX {k:Nat}:a ∈ cu k w ↔ ∃ s,s<k/\a=w++[((s+1:Nat):Int)]:=by
 unfold cu;rw[List.mem_map];exact⟨λ⟨s,h,e⟩=>⟨s,List.mem_range.1 h,e.symm⟩,λ⟨s,h,e⟩=>⟨s,List.mem_range.2 h,e.symm⟩⟩
def tV (m:bV)(K:List (List Int)):List (List Rat):=K.map (bF m)
def upTo (K:List (List Int))(v:List Int):List (List Int):=K.filter λu=>decide (mG u v<=0)
theorem dV {K:List (List Int)}{v:List Int}:u ∈ upTo K v ↔ u ∈ K/\mG u v<=0:=by
 unfold upTo;rw[List.mem_filter,decide_eq_true_eq]
structure RS (m:bV) (V K Q:List (List Int)):Prop where
 sub:∀ u,u ∈ K->u ∈ V
 root:[] ∈ V \/ [] ∈ Q
 kids:∀ u,u ∈ K->∀ s,s<m.k->u++[((s+1:Nat):Int)] ∈ V \/ u++[((s+1:Nat):Int)] ∈ Q
 span:∀ v,v ∈ V->dh m.n (tV m (upTo K v)) (vf (bF m v))
 ord:(V++Q).Pairwise λa b=>mG a b<0
 par:∀ q,q ∈ Q->q=[] \/ ∃ u,u ∈ K/\∃ s,s<m.k/\q=u++[((s+1:Nat):Int)]
 vF:∀ v,v ∈ V \/ v ∈ Q->iV m.k v
theorem RS.start (m:bV):RS m [] [] [[]] :=
 ⟨λ_ h=>(by cases h),.inr (List.mem_singleton.2 rfl),λ_ h=>(by cases h),λ_ h=>(by cases h),List.pairwise_singleton ..,λq h=>.inl (jJ h),λv h x hx=>by
  rcases h with h|h
  .cases h
  .rw[jJ h] at hx;cases hx⟩
theorem RS.reach {V K Q:List (List Int)}(h:RS m V K Q):∀ (w:List Int),iV m.k w->(∀ q,q ∈ Q->mG w q<0)->dh m.n (tV m (upTo K w)) (vf (bF m w)):=by
 intro w
 induction hl:w.length generalizing w with
 | zero =>
  intro _ hq;have e:=Hl hl;subst e;rcases h.root with h1|h1
  .exact h.span _ h1
  .have:=hq _ h1;rw[Bo] at this;exact absurd this (by decide)
 | succ n ih =>
  intro hw hq;have hne:w≠[]:=λe=>by subst e;cases hl
  obtain⟨y,x,rfl⟩:∃ y x,w=y++[x]:=⟨w.dropLast,w.getLast hne,(List.dropLast_concat_getLast hne).symm⟩;have hx:=hw x (by simp)
  have hy:iV m.k y:=λz hz=>hw z (List.mem_append.2 (.inl hz));have hyl:y.length=n:=by rw[jd,iY] at hl;omega
  have hyx:mG y (y++[x])<0:=DW (by rw[jd,iY];omega)
  have hs:=ih y hyl hy λq hq'=>wV hyx (Int.le_of_lt (hq q hq'));rw[mY];have hmap:=dh.map (RQ m (x.toNat-1)) hs (C:=tV m (upTo K (y++[x]))) λb hb=>by
   obtain⟨u,hu,rfl⟩:=kK hb;obtain⟨hu1,hu2⟩:=dV.1 hu;have hux:u++[x] ∈ V:=by
    have:=h.kids u hu1 (x.toNat-1) (by omega)
    rw[show ((x.toNat-1+1:Nat):Int)=x by omega] at this
    refine this.resolve_right λk=>?_;have a:=hq _ k;have b:=Wp (x:=x) hu2;have c:=E5 (u++[x]) (y++[x]);omega
   have hsp:=h.span _ hux;rw[mY] at hsp;refine (hsp.congr (v:=λj=>bD (λi=>vf (bF m u) i*qJ m (x.toNat-1) i j) m.n) λj hj=>(DU hj).symm).mono λb hb=>?_;obtain⟨z,hz,rfl⟩:=kK hb;obtain⟨hz1,hz2⟩:=dV.1 hz;exact List.mem_map.2 ⟨z,dV.2 ⟨hz1,DV hz2 (Wp hu2)⟩,rfl⟩
  exact hmap.congr λj hj=>DU hj
theorem RU {K:List (List Int)}{v x:List Int}(hu:u ∈ upTo K v):u ∈ upTo (K++[x]) v :=
 dV.2 ⟨List.mem_append.2 (.inl (dV.1 hu).1),(dV.1 hu).2⟩
theorem RS.head {V K Q:List (List Int)}(h:RS m V K (w::Q)):(∀ v,v ∈ V->mG v w<0)/\(∀ q,q ∈ Q->mG w q<0):=by
 obtain⟨_,h2,h3⟩:=List.pairwise_append.1 h.ord;exact⟨λv hv=>h3 v hv w pU,(List.pairwise_cons.1 h2).1⟩
theorem RS.drop {V K Q:List (List Int)}(h:RS m V K (w::Q))(hs:dh m.n (tV m K) (vf (bF m w))):RS m (V++[w]) K Q:=by
 have e:V++w::Q=(V++[w])++Q:=by simp
 refine⟨λu hu=>List.mem_append.2 (.inl (h.sub u hu)),?_,λu hu s hs'=>?_,λv hv=>?_,by rw[<- e];exact h.ord,λq hq=>h.par q (List.mem_cons_of_mem _ hq),λv hv=>?_⟩
 .rcases h.root with h1|h1
  .exact .inl (List.mem_append.2 (.inl h1))
  .rcases List.mem_cons.1 h1 with h1|h1
   .exact .inl (List.mem_append.2 (.inr (List.mem_singleton.2 h1)))
   .exact .inr h1
 .rcases h.kids u hu s hs' with h1|h1
  .exact .inl (List.mem_append.2 (.inl h1))
  .rcases List.mem_cons.1 h1 with h1|h1
   .exact .inl (List.mem_append.2 (.inr (List.mem_singleton.2 h1)))
   .exact .inr h1
 .rcases uy hv with hv|hv
  .exact h.span v hv
  .rw[jJ hv];refine hs.mono λb hb=>?_;obtain⟨u,hu,rfl⟩:=kK hb;exact List.mem_map.2 ⟨u,dV.2 ⟨hu,Int.le_of_lt (h.head.1 u (h.sub u hu))⟩,rfl⟩
 .refine h.vF v (hv.elim (λhv=>?_) λhv=>.inr (List.mem_cons_of_mem _ hv));exact (uy hv).imp id λhv=>List.mem_cons.2 (.inl (jJ hv))
theorem RS.keep {V K Q:List (List Int)}(h:RS m V K (w::Q)):RS m (V++[w]) (K++[w]) (Q++cu m.k w):=by
 have hd:=h.head;refine⟨λu hu=>?_,?_,λu hu s hs'=>?_,λv hv=>?_,?_,λq hq=>?_,λv hv=>?_⟩
 .exact (uy hu).elim (λhu=>List.mem_append.2 (.inl (h.sub u hu))) λhu=>List.mem_append.2 (.inr hu)
 .rcases h.root with h1|h1
  .exact .inl (List.mem_append.2 (.inl h1))
  .rcases List.mem_cons.1 h1 with h1|h1
   .exact .inl (List.mem_append.2 (.inr (List.mem_singleton.2 h1)))
   .exact .inr (List.mem_append.2 (.inl h1))
 .rcases uy hu with hu|hu
  .rcases h.kids u hu s hs' with h1|h1
   .exact .inl (List.mem_append.2 (.inl h1))
   .rcases List.mem_cons.1 h1 with h1|h1
    .exact .inl (List.mem_append.2 (.inr (List.mem_singleton.2 h1)))
    .exact .inr (List.mem_append.2 (.inl h1))
  .rw[jJ hu];exact .inr (List.mem_append.2 (.inr (DX.2 ⟨s,hs',rfl⟩)))
 .rcases uy hv with hv|hv
  .exact (h.span v hv).mono λb hb=>by
    obtain⟨u,hu,rfl⟩:=kK hb;exact List.mem_map.2 ⟨u,RU hu,rfl⟩
  .rw[jJ hv];exact .mem (List.mem_map.2 ⟨w,dV.2 ⟨List.mem_append.2 (.inr (List.mem_singleton.2 rfl)),by rw[Bo];exact Int.le_refl _⟩,rfl⟩)
 .rw[show (V++[w])++(Q++cu m.k w)=(V++w::Q)++cu m.k w by simp]
  refine List.pairwise_append.2 ⟨h.ord,az5 m.k w,λa ha b hb=>?_⟩;obtain⟨s,_,rfl⟩:=DX.1 hb;have hwb:mG w (w++[((s+1:Nat):Int)])<0:=DW (by rw[jd,iY];omega)
  rcases uy ha with ha|ha
  .exact wV (hd.1 a ha) (Int.le_of_lt hwb)
  .rcases List.mem_cons.1 ha with rfl|ha
   .exact hwb
   .rcases h.par a (List.mem_cons_of_mem _ ha) with rfl|⟨u,hu,t,_,rfl⟩
    .exact DW (by rw[jd,iY];show 0<_;omega)
    .exact Wq (hd.1 u (h.sub u hu))
 .rcases uy hq with hq|hq
  .exact (h.par q (List.mem_cons_of_mem _ hq)).imp id λ⟨u,hu,r⟩=>⟨u,List.mem_append.2 (.inl hu),r⟩
  .obtain⟨s,hs',rfl⟩:=DX.1 hq;exact .inr ⟨w,List.mem_append.2 (.inr (List.mem_singleton.2 rfl)),s,hs',rfl⟩
 .have hw:=h.vF w (.inr pU);rcases hv with hv|hv
  .rcases uy hv with hv|hv
   .exact h.vF v (.inl hv)
   .rw[jJ hv];exact hw
  .rcases uy hv with hv|hv
   .exact h.vF v (.inr (List.mem_cons_of_mem _ hv))
   .obtain⟨s,hs',rfl⟩:=DX.1 hv;intro x hx;rcases uy hx with hx|hx
    .exact hw x hx
    .rw[jJ hx];omega
def Ie (m:bV)(K:List (List Int)):Prop:=∀ u,u ∈ K->yH m u=0
theorem RS.zero {V K Q:List (List Int)}(h:RS m V K Q)(hz:Ie m K)(hw:iV m.k w)(hq:∀ q,q ∈ Q->mG w q<0):yH m w=0:=by
 refine (h.reach w hw hq).kill (L:=λu _=>vX m.n u (vf m.fin)) (F6 m.n (vf m.fin)) λb hb=>?_;obtain⟨u,hu,rfl⟩:=kK hb;exact hz u (dV.1 hu).1
structure E8 (m:bV) (w:List Int):Prop where
 vF:iV m.k w
 nz:yH m w≠0
 before:∀ u,iV m.k u->mG u w<0->yH m u=0
theorem E8.unique {v:List Int}(h:E8 m w)(k:E8 m v):w=v:=by
 refine F7 (Decidable.byContradiction λhne=>?_);have:=E5 w v;rcases Int.lt_or_gt_of_ne hne with h1|h1
 .exact h.nz (k.before w h.vF h1)
 .exact k.nz (h.before v k.vF (by omega))
theorem RS.first {V K Q:List (List Int)}(h:RS m V K (w::Q))(hz:Ie m K)(hn:yH m w≠0):E8 m w :=
 ⟨h.vF w (.inr pU),hn,λu hu hl=>h.zero hz hu λq hq=>by
  rcases List.mem_cons.1 hq with rfl|hq
  .exact hl
  .exact wV hl (Int.le_of_lt (h.head.2 q hq))⟩
theorem RS.none {V K:List (List Int)}(h:RS m V K [])(hz:Ie m K)(w:List Int)(hw:iV m.k w):yH m w=0:=h.zero hz hw λq hq=>by cases hq

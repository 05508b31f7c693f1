/-
  M, chapters 23 and 24: machines over the rational numbers, explored word by word in shortlex order.
-/
import Derived.Test.YtnjoncgnjdkaoaaGreatDoorKMod40c
set_option linter.unusedVariables false
set_option linter.unusedSimpArgs false
namespace Go.AL
open Go Go.BigFrame
theorem aN {f g:Nat->Rat}:∀ {n:Nat},(∀ i,i<n->f i=g i)->aX f n=aX g n
 | 0,_=>rfl
 | n+1,h=>by rw[aX,aX,aN λi hi=>h i (by omega),h n (Nat.lt_succ_self n)]
theorem mJ {f:Nat->Rat}:∀ {n:Nat},(∀ i,i<n->f i=0)->aX f n=0
 | 0,_=>rfl
 | n+1,h=>by rw[aX,mJ λi hi=>h i (by omega),h n (Nat.lt_succ_self n)];grind
theorem rG (f g:Nat->Rat):∀ n,aX (λi=>f i+g i) n=aX f n+aX g n
 | 0=>by rw[aX,aX,aX];grind
 | n+1=>by rw[aX,aX,aX,rG f g n];grind
theorem uU (f:Nat->Rat)(c:Rat):∀ n,aX (λi=>f i*c) n=aX f n*c
 | 0=>by rw[aX,aX,Rat.zero_mul]
 | n+1=>by rw[aX,aX,uU f c n,Rat.add_mul]
theorem jo (f:Nat->Rat)(c:Rat)(n:Nat):aX (λi=>c*f i) n=c*aX f n:=by
 rw[Rat.mul_comm,<- uU];exact aN λi _=>Rat.mul_comm ..
theorem I4 (f:Nat->Rat)(c:Rat)(n:Nat):aX (λi=>f i / c) n=aX f n / c:=by
 rw[Rat.div_def,<- uU];exact aN λi _=>Rat.div_def ..
theorem sG (f:Nat->Nat->Rat)(m:Nat):∀ n,aX (λi=>aX (λj=>f i j) m) n=aX (λj=>aX (λi=>f i j) n) m
 | 0=>by rw[aX];exact (mJ λ_ _=>rfl).symm
 | n+1=>by
  rw[aX,sG f m n,<- rG];exact aN λj _=>rfl
theorem ML (f:Nat->Rat):∀ n,f 0+aX (λt=>f (t+1)) n=aX f (n+1)
 | 0=>by rw[aX,aX,aX];grind
 | n+1=>by rw[aX,aX,<- ML f n];grind
theorem ai1 {h:HM}{w:List Int}{t d:Nat}(ht:d+1+t+1=w.length):aX (λi=>(Em h w t).getD i 0*(MF h w (d+1)).getD i 0) h.st=aX (λj=>(Em h w (t+1)).getD j 0*(MF h w d).getD j 0) h.st:=by
 have e1:∀ i,i<h.st->(Em h w t).getD i 0*(MF h w (d+1)).getD i 0=aX (λj=>(Em h w t).getD i 0*trQ h i j*(emQ h j (FN w (t+1))*(MF h w d).getD j 0)) h.st:=λi hi=>by
  rw[X0 (d:=d+1) (a:=t) (by omega) (by omega) hi,aA3,<- jo]
  exact aN λj _=>by rw[show d+1-1=d from rfl,Rat.mul_assoc]
 rw[aN e1,sG];refine aN λj hj=>?_;rw[uU,XZ (t:=t+1) (by omega) hj,show t+1-1=t from rfl,ah7,Rat.mul_assoc]
theorem ai2 {h:HM}{w:List Int}:∀ {d t:Nat},d+t+1=w.length->aX (λi=>(Em h w t).getD i 0*(MF h w d).getD i 0) h.st=MG h w
 | 0,t,ht=>by
  rw[show MG h w=aA4 h (Em h w (w.length-1)) h.st from if_neg (by omega),aA4,show w.length-1=t by omega]
  exact aN λi hi=>by rw[ah8 hi]
 | d+1,t,ht=>by
  rw[ai1 (by omega)]
  exact ai2 (by omega)
theorem ai3 {h:HM}{w:List Int}{t:Nat}(ht:t<w.length)(hz:MG h w≠0):aX (λi=>vY h w t i) h.st=1:=by
 unfold vY;rw[I4,ai2 (by omega),Rat.div_def,Rat.mul_inv_cancel _ hz]
theorem aP6 {h:HM}{w:List Int}{t i:Nat}(ht:t+1<w.length)(hi:i<h.st):aX (λj=>xiQ h w t i j) h.st=vY h w t i:=by
 unfold xiQ vY;rw[I4,X0 (d:=w.length-1-t) (a:=t) (by omega) (by omega) hi,aA3,<- jo,show w.length-1-(t+1)=w.length-1-t-1 by omega]
 congr 1;exact aN λj _=>Rat.mul_assoc ..
theorem aP7 {h:HM}{w:List Int}{t j:Nat}(hj:j<h.st):aX (λi=>xiQ h w t i j) h.st=vY h w (t+1) j:=by
 unfold xiQ vY;rw[I4,uU,XZ (t:=t+1) (by omega) hj,show t+1-1=t from rfl,ah7,Rat.mul_assoc]
theorem wU {v:Nat->Rat}{x n:Nat}(hx:x<n):aX (λy=>if x=y then v y else 0) n=v x:=by
 induction n with
 | zero=>omega
 | succ n ih =>
  rw[aX];by_cases hn:x=n
  .rw[if_pos hn,hn,mJ λi hi=>if_neg (by omega)];grind
  .rw[if_neg hn,ih (by omega)];grind
theorem TT {h:HM}{w:List Int}{i:Nat}:∀ {n:Nat},(∀ t,t<n->FN w t<h.sym)->aX (λx=>aK7 h w n i x) h.sym=aX (λt=>vY h w t i) n
 | 0,_=>mJ λ_ _=>rfl
 | n+1,hx=>by
  rw[aX,<- TT λt ht=>hx t (by omega)]
  rw[<- wU (v:=λ_=>vY h w n i) (hx n (Nat.lt_succ_self n)),<- rG];exact aN λx _=>rfl
theorem ai4 {h:HM}{w:List Int}{i:Nat}(hi:i<h.st):∀ {n:Nat},n<w.length->aX (λj=>MK h w n i j) h.st+vY h w n i=aX (λt=>vY h w t i) (n+1):=λ{n} hn=>by
 rw[aX];congr 1;unfold MK;rw[sG];exact aN λt ht=>aP6 (by omega) hi
theorem ai5 {h:HM}{w:List Int}{i n:Nat}(hi:i<h.st):vY h w 0 i+aX (λj=>MK h w n j i) h.st=aX (λt=>vY h w t i) (n+1):=by
 rw[<- ML];congr 1;unfold MK;rw[sG];exact aN λt _=>aP7 hi
def ai6 (l:List Rat):Rat:=aX (λi=>l.getD i 0) l.length
theorem MN {f:Nat->Rat}(n:Nat):ai6 ((List.range n).map f)=aX f n:=by
 unfold ai6;rw[dJ,List.length_range];exact aN λi hi=>aT _ _ hi
structure Fit (h:HM) (w:List Int):Prop where
 row:∀ t,t<w.length->ai6 (MH h w t)=1
 bu9:∀ i,ai6 (Rh h w w.length i)=aX (λt=>vY h w t i) w.length
 out:∀ i,i<h.st->ai6 (moveRow h w (w.length-1) i)+vY h w (w.length-1) i=aX (λt=>vY h w t i) w.length
 into:∀ i,i<h.st->vY h w 0 i+aX (λj=>MK h w (w.length-1) j i) h.st=aX (λt=>vY h w t i) w.length
theorem fit {h:HM}{w:List Int}(hx:∀ t,t<w.length->FN w t<h.sym)(hz:MG h w≠0)(hn:w.length≠0):Fit h w :=
 ⟨λt ht=>(MN _).trans (ai3 ht hz),λi=>(MN _).trans (TT hx),
  λi hi=>by rw[show moveRow h w (w.length-1) i=(List.range h.st).map λj=>MK h w (w.length-1) i j from rfl,MN,ai4 hi (by omega),show w.length-1+1=w.length by omega],
  λi hi=>by rw[ai5 hi,show w.length-1+1=w.length by omega]⟩
structure Got (h:HM) (w:List Int):Prop where
 pl:(aK6 h w).length=w.length
 pg:∀ t,t<w.length->(aK6 h w).getD t []=MH h w t
 sS:exS h w=MH h w 0
 sE:exE h w=MH h w (w.length-1)
 lM:(exM h w).length=h.st
 lO:(exO h w).length=h.st
 gM:∀ i,i<h.st->(exM h w).getD i []=moveRow h w (w.length-1) i
 gO:∀ i,i<h.st->(exO h w).getD i []=Rh h w w.length i
def jR {α:Type}(f:α->Rat):List α->Rat
 | []=>0
 | x::r=>f x+jR f r
theorem JO {α:Type}(f:α->Rat):∀ a b:List α,jR f (a++b)=jR f a+jR f b
 | [],b=>by rw[List.nil_append,jR,Rat.zero_add]
 | x::a,b=>by rw[List.cons_append,jR,jR,JO f a b,Rat.add_assoc]
theorem TU {α β:Type}(f:β->Rat)(g:α->β):∀ l:List α,jR f (l.map g)=jR (λx=>f (g x)) l
 | []=>rfl
 | x::l=>by rw[List.map_cons,jR,TU f g l];rfl
theorem MO {α:Type}{f g:α->Rat}:∀ {l:List α},(∀ x,x ∈ l->f x=g x)->jR f l=jR g l
 | [],_=>rfl
 | x::l,h=>by rw[jR,jR,h x uZ,MO λy hy=>h y (List.mem_cons_of_mem _ hy)]
def Ri (n:Nat):Nat->List (List Int)
 | 0=>[[]]
 | k+1=>(Ri n k).flatMap λp=>(List.range n).map λ(s:Nat)=>p++[(s:Int)]
def atP (p:List Int)(t:Nat):Nat:=(p.getD t 0).toNat
def wgt (h:HM)(w:List Int)(p:List Int):Nat->Rat
 | 0=>h.ini.getD (atP p 0) 0
 | t+1=>(if t=0 then wgt h w p t else wgt h w p t*trQ h (atP p (t-1)) (atP p t))*emQ h (atP p t) (FN w t)
def a99 (h:HM)(p:Nat->Bool)(g:Nat->Rat):List Rat:=(List.range h.st).map λi=>if p i=true then g i else 0
def ai7 (h:HM)(w:List Int)(p:Nat->Nat->Bool):Nat->List Rat
 | 0=>a99 h (p (w.length-1)) λi=>h.stop.getD i 0
 | d+1=>a99 h (p (w.length-1-(d+1))) λi=>(Rf h (i:Nat) (FN w (w.length-1-d)) (ai7 h w p d) h.st).1
def ba0 (h:HM)(w:List Int)(p:Nat->Nat->Bool)(fr:Int)(t:Nat):Rat × Nat:=Rf h fr (FN w t) (ai7 h w p (w.length-1-t)) h.st
def toG (h:HM)(w:List Int)(p:Nat->Nat->Bool):Nat->Int
 | 0=>-1
 | t+1=>((ba0 h w p (toG h w p t) t).2:Nat)
def ba1 (h:HM)(w:List Int)(p:Nat->Nat->Bool)(t:Nat):List Int:=(List.range t).map λi=>toG h w p (i+1)
def aK8 (h:HM)(w:List Int)(p:Nat->Nat->Bool):Rat:=(ba0 h w p (-1) 0).1
def every:Nat->Nat->Bool:=λ_ _=>true
structure bi4 (h:HM) (fr:Int) (x:Nat) (rest:List Rat) (n:Nat) (r:Rat × Nat):Prop where
 nonneg:0<=r.1
 le:∀ i,i<n->ah6 h fr x rest i<=r.1
 zero:r.1=0->r.2=0
 lt:0<r.1->r.2<n
 eq:0<r.1->ah6 h fr x rest r.2=r.1
 least:0<r.1->∀ i,i<r.2->ah6 h fr x rest i<r.1
def ba2 (h:HM)(w:List Int)(p:Nat->Nat->Bool):Rat:=if w.length=0 then h.empty else aK8 h w p
def bm7 (h:HM)(w:List Int)(p:Nat->Nat->Bool):List Int:=if w.length=0 \/ aK8 h w p=0 then [] else ba1 h w p w.length
def bm8 (h:HM)(w:List Int)(p:Nat->Nat->Bool):Int:=if ba2 h w p=0 then 11 else 0
def bm9 (sets:List Int)(t:Nat):Nat:=if t<sets.length then (within (sets.getD t 0) 8).toNat else 7
def ba3 (x s:Nat):Bool:=decide (x / 2 ^ s % 2=1)
def rowA (x n:Nat):List Int:=((List.range n).filter λs=>ba3 x s).map λs:Nat=>(s:Int)
def ba4 (h:HM)(w sets:List Int)(n:Nat):Prop:=bm8 h w every=0/\∀ t,t<n->ba3 (bm9 sets t) ((bm7 h w every).getD t 0).toNat=true
instance (h:HM) (w sets:List Int) (n:Nat):Decidable (ba4 h w sets n):=inferInstanceAs (Decidable (_/\_))
def cmpL:List Int->List Int->Int
 | [],[]=>0
 | [],_::_=>-1
 | _::_,[]=>1
 | a::x,b::y=>if a<b then -1 else if b<a then 1 else cmpL x y
theorem I5:∀ x:List Int,cmpL x x=0
 | []=>rfl
 | a::x=>by rw[cmpL,if_neg (by omega),if_neg (by omega),I5 x]
theorem TV:∀ x y:List Int,cmpL y x = -cmpL x y
 | [],[]=>rfl
 | [],_::_=>rfl
 | _::_,[]=>rfl
 | a :: x, b :: y => by
  rw[cmpL,cmpL,TV x y];by_cases h1:a<b
  .rw[if_neg (by omega),if_pos h1,if_pos h1];rfl
  .rw[if_neg h1];by_cases h2:b<a
   .rw[if_pos h2,if_neg h1,if_pos h2]
   .rw[if_neg h2,if_neg h2,if_neg h1]
theorem Pn:∀ {x y:List Int},cmpL x y=0->x=y
 | [],[],_=>rfl
 | [],_::_,h=>by rw[cmpL] at h;exact absurd h (by decide)
 | _::_,[],h=>by rw[cmpL] at h;exact absurd h (by decide)
 | a :: x, b :: y, h => by
  rw[cmpL] at h;by_cases h1:a<b
  .rw[if_pos h1] at h;exact absurd h (by decide)
  .rw[if_neg h1] at h;by_cases h2:b<a
   .rw[if_pos h2] at h;exact absurd h (by decide)
   .rw[if_neg h2] at h;rw[Pn h,show a=b by omega]
theorem MP:∀ {x y z:List Int},cmpL x y<=0->cmpL y z<=0->cmpL x z<=0
 | [],_,[],_,_=>by rw[cmpL];decide
 | [],_,_::_,_,_=>by rw[cmpL];decide
 | _::_,[],_,h,_=>by rw[cmpL] at h;exact absurd h (by decide)
 | _::_,_::_,[],_,h=>by rw[cmpL] at h;exact absurd h (by decide)
 | a :: x, b :: y, c :: z, h1, h2 => by
  rw[cmpL] at h1 h2 ⊢;by_cases hab:a<b
  .by_cases hcb:c<b
   .rw[if_neg (by omega),if_pos hcb] at h2;exact absurd h2 (by decide)
   .rw[if_pos (by omega)];decide
  .rw[if_neg hab] at h1;by_cases hba:b<a
   .rw[if_pos hba] at h1;exact absurd h1 (by decide)
   .rw[if_neg hba] at h1;by_cases hbc:b<c
    .rw[if_pos (by omega)];decide
    .rw[if_neg hbc] at h2;by_cases hcb:c<b
     .rw[if_pos hcb] at h2;exact absurd h2 (by decide)
     .rw[if_neg hcb] at h2;rw[if_neg (by omega),if_neg (by omega)]
      exact MP h1 h2
theorem E5 {a b:Int}:∀ {x y:List Int},x.length=y.length->cmpL (x++[a]) (y++[b])=if cmpL x y=0 then (if a<b then -1 else if b<a then 1 else 0) else cmpL x y
 | [],[],_=>by rw[List.nil_append,List.nil_append,cmpL,cmpL,if_pos rfl,cmpL]
 | [],_::_,h=>by simp at h
 | _::_,[],h=>by simp at h
 | c :: x, d :: y, h => by
  rw[List.cons_append,List.cons_append,cmpL,cmpL,E5 (by simpa using h)]
  by_cases h1:c<d
  .rw[if_pos h1,if_pos h1,if_neg (by decide)]
  .rw[if_neg h1,if_neg h1];by_cases h2:d<c
   .rw[if_pos h2,if_pos h2,if_neg (by decide)]
   .rw[if_neg h2,if_neg h2]
theorem MQ {a:Int}{x y:List Int}(h:x.length=y.length):cmpL (x++[a]) (y++[a])=cmpL x y:=by
 rw[E5 h]
 split
 .rename_i e;rw[if_neg (by omega),if_neg (by omega),e]
 .rfl
section
variable {h:HM}{bb B:Nat}{u:List Int}
def follow (h:HM)(u:List Int)(s i:Nat):Rat:=(ai7 h u every (u.length-1-s)).getD i 0
end
def aP9:List Int->List Int->Nat
 | a::x,b::y=>if a=b then aP9 x y+1 else 0
 | _,_=>0
def Zm (al:Nat->Bool)(ps:Nat->List Int):Nat->Int × List Int
 | 0=>(-1,[])
 | i + 1 => if al i = true then
   (if (Zm al ps i).1<0 then (((min (ps i).length (aP9 (ps i) (ps i)):Nat):Int),ps i) else (((min (Zm al ps i).1.toNat (aP9 (ps i) (Zm al ps i).2):Nat):Int),(Zm al ps i).2)) else Zm al ps i
structure bi5 (al:Nat->Bool) (ps:Nat->List Int) (n:Nat) (c:Int × List Int):Prop where
 none:(∀ i,i<n->al i=false)->c=(-1,[])
 some:(∃ i,i<n/\al i=true)->0<=c.1/\(∃ i,i<n/\al i=true/\c.2=ps i)/\(∀ i,i<n->al i=true->c.1.toNat<=(ps i).length/\(ps i).take c.1.toNat=c.2.take c.1.toNat) /\
  ∀ m,(∀ i,i<n->al i=true->m<=(ps i).length/\(ps i).take m=c.2.take m)->m<=c.1.toNat
structure Dec where
 t:Nat
 sc:List Rat
 tl:List (List Int)
 dn:List Int
def X3 (x:Rat)(y:List Int)(m:Rat × List Int):Prop:=m.1<x \/ (x=m.1/\0<x/\cmpL y m.2<0)
instance (x:Rat) (y:List Int) (m:Rat × List Int):Decidable (X3 x y m):=by unfold X3;infer_instance
def ai8 (h:HM)(o:Dec)(j i:Nat):Rat:=o.sc.getD i 0*trQ h i j
section
variable {h:HM}{bb B:Nat}{u:List Int}{o:Dec}
structure ba5 (h:HM) (u:List Int) (t:Nat) (S:Nat->Rat) (Q:Nat->List Int):Prop where
 nonneg:∀ j,j<h.st->0<=S j
 max:∀ p,p ∈ Ri h.st t->wgt h u p t<=S (atP p (t-1))
 live:∀ j,j<h.st->0<S j->Q j ∈ Ri h.st t/\atP (Q j) (t-1)=j/\wgt h u (Q j) t=S j/\∀ p,p ∈ Ri h.st t->atP p (t-1)=j->wgt h u p t=S j->cmpL (Q j) p<=0
structure bz9 (h:HM) (u:List Int) (o:Dec):Prop where
 le:o.t<=u.length
 zero:o.t=0->o.sc=[]/\o.tl=[]/\o.dn=[]
 len:o.t≠0->o.sc.length=h.st/\o.tl.length=h.st
 heads:o.t≠0->ba5 h u o.t (λj=>o.sc.getD j 0) λj=>o.dn++o.tl.getD j []
 dead:∀ j,¬ 0<o.sc.getD j 0->o.tl.getD j []=[]
 some:o.t≠0->∃ j,j<h.st/\0<o.sc.getD j 0
 com:o.t≠0->(Zm (λj=>decide (0<o.sc.getD j 0)) (λj=>o.tl.getD j []) h.st).1=0
 small:Small (1+2048*o.t) o.sc
structure ba6 (h:HM) (o:Dec) (j n:Nat) (m:Rat × List Int):Prop where
 nonneg:0<=m.1
 le:∀ i,i<n->ai8 h o j i<=m.1
 pos:0<m.1->∃ i,i<n/\m=(ai8 h o j i,o.tl.getD i [])
 least:0<m.1->∀ i,i<n->ai8 h o j i=m.1->cmpL m.2 (o.tl.getD i [])<=0
end
def aQ0 (h:HM)(o:Dec)(i:Nat):Rat:=o.sc.getD i 0*h.stop.getD i 0
structure bi6 (h:HM) (o:Dec) (n:Nat) (m:Rat × List Int):Prop where
 nonneg:0<=m.1
 le:∀ i,i<n->aQ0 h o i<=m.1
 pos:0<m.1->∃ i,i<n/\m=(aQ0 h o i,o.tl.getD i [])
 least:0<m.1->∀ i,i<n->aQ0 h o i=m.1->cmpL m.2 (o.tl.getD i [])<=0
section
variable {h:HM}{bb B:Nat}{u:List Int}{o:Dec}
structure bi7 (ts:List Int) (n:Nat):Prop where
 ge:∀ s,s<ts.length->(s:Int)+1<=ts.getD s 0
 le:∀ s,s<ts.length->ts.getD s 0<=n
 mono:∀ s,s+1<ts.length->ts.getD s 0<=ts.getD (s+1) 0
end
structure dP where
 n:Nat
 ini:List Rat
 fin:List Rat
 qL:List (List (List Rat))
def dP.k (m:dP):Nat:=m.qL.length
def oq (m:dP)(s i j:Nat):Rat:=((m.qL.getD s []).getD i []).getD j 0
def stepM (m:dP)(v:List Rat)(s:Nat):List Rat:=(List.range m.n).map λj=>aX (λi=>v.getD i 0*oq m s i j) m.n
def bP (m:dP)(w:List Int):List Rat:=w.foldl (λv x=>stepM m v (x.toNat-1)) m.ini
def vZ (n:Nat)(u v:Nat->Rat):Rat:=aX (λi=>u i*v i) n
def wV (m:dP)(w:List Int):Rat:=vZ m.n (vf (bP m w)) (vf m.fin)
structure dP.Ok (m:dP):Prop where
 ini:m.ini.length=m.n
 fin:m.fin.length=m.n
def nO (a b:List Int):Int:=if a.length≠b.length then (if a.length<b.length then -1 else 1) else cmpL a b
def kC (k:Nat)(w:List Int):Prop:=∀ x,x ∈ w->1<=x/\x<=(k:Int)
def cu (k:Nat)(w:List Int):List (List Int):=(List.range k).map λs=>w++[((s+1:Nat):Int)]
section
variable {m:dP}{w u:List Int}{a b c:List Int}
theorem BJ (m:dP)(v:List Rat)(s:Nat):(stepM m v s).length=m.n:=by simp[stepM]
theorem lm (x:Int):bP m (w++[x])=stepM m (bP m w) (x.toNat-1):=by unfold bP;rw[List.foldl_append];rfl
theorem wo (h:m.Ok)(w:List Int):(bP m w).length=m.n:=by
 rcases List.eq_nil_or_concat w with rfl|⟨w,x,rfl⟩
 .exact h.ini
 .rw[List.concat_eq_append,lm,BJ]
theorem Po (m:dP)(s:Nat):ah9 m.n m.n λu j=>aX (λi=>u i*oq m s i j) m.n :=
 ⟨λu v h j _=>aN λi hi=>by rw[h i hi],λu v c j _=>by
  rw[<- jo,<- rG];exact aN λi _=>by rw[Rat.add_mul,Rat.mul_assoc],λj _=>mJ λi _=>Rat.zero_mul _⟩
theorem Ep (n:Nat)(f:Nat->Rat):ah9 n 1 λu _=>vZ n u f :=
 ⟨λu v h _ _=>aN λi hi=>by rw[h i hi],λu v c _ _=>by
  unfold vZ;rw[<- jo,<- rG];exact aN λi _=>by rw[Rat.add_mul,Rat.mul_assoc],λ_ _=>mJ λi _=>Rat.zero_mul _⟩
theorem BK {v:List Rat}{s j:Nat}(hj:j<m.n):(stepM m v s).getD j 0=aX (λi=>v.getD i 0*oq m s i j) m.n:=aT _ _ hj
theorem xY (a:List Int):nO a a=0:=by unfold nO;rw[if_neg (by omega),I5]
theorem E8 (a b:List Int):nO b a = -nO a b:=by
 unfold nO;by_cases h:a.length=b.length
 .rw[if_neg (show ¬ b.length≠a.length by omega),if_neg (show ¬ a.length≠b.length by omega)];exact TV a b
 .rw[if_pos (show b.length≠a.length by omega),if_pos (show a.length≠b.length by omega)]
  by_cases h1:a.length<b.length
  .rw[if_pos h1,if_neg (show ¬ b.length<a.length by omega)];rfl
  .rw[if_neg h1,if_pos (show b.length<a.length by omega)]
theorem MR (h:nO a b=0):a=b:=by
 unfold nO at h
 split at h
 .split at h <;> cases h
 .exact Pn h
theorem E9 (h:nO a b<=0)(k:nO b c<=0):nO a c<=0:=by
 unfold nO at *;by_cases h1:a.length=b.length
 .by_cases h2:b.length=c.length
  .rw[if_neg (by omega)] at h k ⊢
   exact MP h k
  .rw[if_pos (by omega)] at k ⊢
   split at k
   .rw[if_pos (by omega)];decide
   .exact absurd k (by decide)
 .rw[if_pos (by omega)] at h
  split at h
  .by_cases h2:b.length=c.length
   .rw[if_pos (by omega),if_pos (by omega)];decide
   .rw[if_pos (by omega)] at k
    split at k
    .rw[if_pos (by omega),if_pos (by omega)];decide
    .exact absurd k (by decide)
  .exact absurd h (by decide)
theorem yJ (h:nO a b<0)(k:nO b c<=0):nO a c<0:=by
 have h1:=E9 (Int.le_of_lt h) k;have h2:nO a c≠0:=λe=>by
  have:=MR e;subst this;have:=E8 a b;omega
 omega
theorem HY (h:nO a b<=0):a.length<=b.length:=by
 unfold nO at h
 split at h
 .split at h
  .omega
  .exact absurd h (by decide)
 .omega
theorem BL (h:a.length<b.length):nO a b<0:=by
 unfold nO;rw[if_pos (by omega),if_pos h];decide
theorem TW {x:Int}(h:nO a b<=0):nO (a++[x]) (b++[x])<=0:=by
 have hl:=HY h;unfold nO at *;rw[jG,jG];by_cases h1:a.length=b.length
 .rw[if_neg (by omega)] at h ⊢
  rw[MQ h1];exact h
 .rw[if_pos (by omega),if_pos (by simp only[oU];omega)];decide
theorem JP {x y:Int}(h:nO a b<0):nO (a++[x]) (b++[y])<0:=by
 have hl:=HY (Int.le_of_lt h);unfold nO at *;rw[jG,jG];by_cases h1:a.length=b.length
 .rw[if_neg (by omega)] at h
  rw[if_neg (by simp only[oU];omega),E5 h1,if_neg (by omega)];exact h
 .rw[if_pos (by simp only[oU];omega),if_pos (by simp only[oU];omega)];decide
theorem TY (k:Nat)(w:List Int):(cu k w).Pairwise λa b=>nO a b<0:=by
 unfold cu;refine List.pairwise_map.2 (List.pairwise_lt_range.imp λ{a b} h=>?_);unfold nO;rw[if_neg (by simp),E5 rfl,if_pos (I5 w),if_pos (by omega)];decide
theorem sH {k:Nat}:a ∈ cu k w ↔ ∃ s,s<k/\a=w++[((s+1:Nat):Int)]:=by
 unfold cu;rw[List.mem_map];exact⟨λ⟨s,h,e⟩=>⟨s,List.mem_range.1 h,e.symm⟩,λ⟨s,h,e⟩=>⟨s,List.mem_range.2 h,e.symm⟩⟩
def Dx (m:dP)(K:List (List Int)):List (List Rat):=K.map (bP m)
def upTo (K:List (List Int))(v:List Int):List (List Int):=K.filter λu=>decide (nO u v<=0)
theorem fD {K:List (List Int)}{v:List Int}:u ∈ upTo K v ↔ u ∈ K/\nO u v<=0:=by
 unfold upTo;rw[List.mem_filter,decide_eq_true_eq]
structure Pq (m:dP) (V K Q:List (List Int)):Prop where
 sub:∀ u,u ∈ K->u ∈ V
 root:[] ∈ V \/ [] ∈ Q
 kids:∀ u,u ∈ K->∀ s,s<m.k->u++[((s+1:Nat):Int)] ∈ V \/ u++[((s+1:Nat):Int)] ∈ Q
 span:∀ v,v ∈ V->bU m.n (Dx m (upTo K v)) (vf (bP m v))
 ord:(V++Q).Pairwise λa b=>nO a b<0
 par:∀ q,q ∈ Q->q=[] \/ ∃ u,u ∈ K/\∃ s,s<m.k/\q=u++[((s+1:Nat):Int)]
 zZ:∀ v,v ∈ V \/ v ∈ Q->kC m.k v
theorem Pq.start (m:dP):Pq m [] [] [[]] :=
 ⟨λ_ h=>(by cases h),.inr (List.mem_singleton.2 rfl),λ_ h=>(by cases h),λ_ h=>(by cases h),List.pairwise_singleton ..,λq h=>.inl (lW h),λv h x hx=>by
  rcases h with h|h
  .cases h
  .rw[lW h] at hx;cases hx⟩
theorem Pq.reach {V K Q:List (List Int)}(h:Pq m V K Q):∀ (w:List Int),kC m.k w->(∀ q,q ∈ Q->nO w q<0)->bU m.n (Dx m (upTo K w)) (vf (bP m w)):=by
 intro w
 induction hl:w.length generalizing w with
 | zero =>
  intro _ hq;have e:=IK hl;subst e;rcases h.root with h1|h1
  .exact h.span _ h1
  .have:=hq _ h1;rw[xY] at this;exact absurd this (by decide)
 | succ n ih =>
  intro hw hq;have hne:w≠[]:=λe=>by subst e;cases hl
  obtain⟨y,x,rfl⟩:∃ y x,w=y++[x]:=⟨w.dropLast,w.getLast hne,(List.dropLast_concat_getLast hne).symm⟩;have hx:=hw x (by simp)
  have hy:kC m.k y:=λz hz=>hw z (List.mem_append.2 (.inl hz));have hyl:y.length=n:=by rw[jG,oU] at hl;omega
  have hyx:nO y (y++[x])<0:=BL (by rw[jG,oU];omega)
  have hs:=ih y hyl hy λq hq'=>yJ hyx (Int.le_of_lt (hq q hq'));rw[lm];have hmap:=bU.map (Po m (x.toNat-1)) hs (C:=Dx m (upTo K (y++[x]))) λb hb=>by
   obtain⟨u,hu,rfl⟩:=mM hb;obtain⟨hu1,hu2⟩:=fD.1 hu;have hux:u++[x] ∈ V:=by
    have:=h.kids u hu1 (x.toNat-1) (by omega)
    rw[show ((x.toNat-1+1:Nat):Int)=x by omega] at this
    refine this.resolve_right λk=>?_;have a:=hq _ k;have b:=TW (x:=x) hu2;have c:=E8 (u++[x]) (y++[x]);omega
   have hsp:=h.span _ hux;rw[lm] at hsp;refine (hsp.congr (v:=λj=>aX (λi=>vf (bP m u) i*oq m (x.toNat-1) i j) m.n) λj hj=>(BK hj).symm).mono λb hb=>?_;obtain⟨z,hz,rfl⟩:=mM hb;obtain⟨hz1,hz2⟩:=fD.1 hz;exact List.mem_map.2 ⟨z,fD.2 ⟨hz1,E9 hz2 (TW hu2)⟩,rfl⟩
  exact hmap.congr λj hj=>BK hj
theorem Pv {K:List (List Int)}{v x:List Int}(hu:u ∈ upTo K v):u ∈ upTo (K++[x]) v :=
 fD.2 ⟨List.mem_append.2 (.inl (fD.1 hu).1),(fD.1 hu).2⟩
theorem Pq.head {V K Q:List (List Int)}(h:Pq m V K (w::Q)):(∀ v,v ∈ V->nO v w<0)/\(∀ q,q ∈ Q->nO w q<0):=by
 obtain⟨_,h2,h3⟩:=List.pairwise_append.1 h.ord;exact⟨λv hv=>h3 v hv w uZ,(List.pairwise_cons.1 h2).1⟩
theorem Pq.drop {V K Q:List (List Int)}(h:Pq m V K (w::Q))(hs:bU m.n (Dx m K) (vf (bP m w))):Pq m (V++[w]) K Q:=by
 have e:V++w::Q=(V++[w])++Q:=by simp
 refine⟨λu hu=>List.mem_append.2 (.inl (h.sub u hu)),?_,λu hu s hs'=>?_,λv hv=>?_,by rw[<- e];exact h.ord,λq hq=>h.par q (List.mem_cons_of_mem _ hq),λv hv=>?_⟩
 .rcases h.root with h1|h1
  .exact .inl (List.mem_append.2 (.inl h1))
  .rcases List.mem_cons.1 h1 with h1|h1
   .exact .inl (List.mem_append.2 (.inr (List.mem_singleton.2 h1)))
   .exact .inr h1
 .rcases h.kids u hu s hs' with h1|h1
  .exact .inl (List.mem_append.2 (.inl h1))
  .rcases List.mem_cons.1 h1 with h1|h1
   .exact .inl (List.mem_append.2 (.inr (List.mem_singleton.2 h1)))
   .exact .inr h1
 .rcases ul hv with hv|hv
  .exact h.span v hv
  .rw[lW hv];refine hs.mono λb hb=>?_;obtain⟨u,hu,rfl⟩:=mM hb;exact List.mem_map.2 ⟨u,fD.2 ⟨hu,Int.le_of_lt (h.head.1 u (h.sub u hu))⟩,rfl⟩
 .refine h.zZ v (hv.elim (λhv=>?_) λhv=>.inr (List.mem_cons_of_mem _ hv));exact (ul hv).imp id λhv=>List.mem_cons.2 (.inl (lW hv))
theorem Pq.keep {V K Q:List (List Int)}(h:Pq m V K (w::Q)):Pq m (V++[w]) (K++[w]) (Q++cu m.k w):=by
 have hd:=h.head;refine⟨λu hu=>?_,?_,λu hu s hs'=>?_,λv hv=>?_,?_,λq hq=>?_,λv hv=>?_⟩
 .exact (ul hu).elim (λhu=>List.mem_append.2 (.inl (h.sub u hu))) λhu=>List.mem_append.2 (.inr hu)
 .rcases h.root with h1|h1
  .exact .inl (List.mem_append.2 (.inl h1))
  .rcases List.mem_cons.1 h1 with h1|h1
   .exact .inl (List.mem_append.2 (.inr (List.mem_singleton.2 h1)))
   .exact .inr (List.mem_append.2 (.inl h1))
 .rcases ul hu with hu|hu
  .rcases h.kids u hu s hs' with h1|h1
   .exact .inl (List.mem_append.2 (.inl h1))
   .rcases List.mem_cons.1 h1 with h1|h1
    .exact .inl (List.mem_append.2 (.inr (List.mem_singleton.2 h1)))
    .exact .inr (List.mem_append.2 (.inl h1))
  .rw[lW hu];exact .inr (List.mem_append.2 (.inr (sH.2 ⟨s,hs',rfl⟩)))
 .rcases ul hv with hv|hv
  .exact (h.span v hv).mono λb hb=>by
    obtain⟨u,hu,rfl⟩:=mM hb;exact List.mem_map.2 ⟨u,Pv hu,rfl⟩
  .rw[lW hv];exact .mem (List.mem_map.2 ⟨w,fD.2 ⟨List.mem_append.2 (.inr (List.mem_singleton.2 rfl)),by rw[xY];exact Int.le_refl _⟩,rfl⟩)
 .rw[show (V++[w])++(Q++cu m.k w)=(V++w::Q)++cu m.k w by simp]
  refine List.pairwise_append.2 ⟨h.ord,TY m.k w,λa ha b hb=>?_⟩;obtain⟨s,_,rfl⟩:=sH.1 hb;have hwb:nO w (w++[((s+1:Nat):Int)])<0:=BL (by rw[jG,oU];omega)
  rcases ul ha with ha|ha
  .exact yJ (hd.1 a ha) (Int.le_of_lt hwb)
  .rcases List.mem_cons.1 ha with rfl|ha
   .exact hwb
   .rcases h.par a (List.mem_cons_of_mem _ ha) with rfl|⟨u,hu,t,_,rfl⟩
    .exact BL (by rw[jG,oU];show 0<_;omega)
    .exact JP (hd.1 u (h.sub u hu))
 .rcases ul hq with hq|hq
  .exact (h.par q (List.mem_cons_of_mem _ hq)).imp id λ⟨u,hu,r⟩=>⟨u,List.mem_append.2 (.inl hu),r⟩
  .obtain⟨s,hs',rfl⟩:=sH.1 hq;exact .inr ⟨w,List.mem_append.2 (.inr (List.mem_singleton.2 rfl)),s,hs',rfl⟩
 .have hw:=h.zZ w (.inr uZ);rcases hv with hv|hv
  .rcases ul hv with hv|hv
   .exact h.zZ v (.inl hv)
   .rw[lW hv];exact hw
  .rcases ul hv with hv|hv
   .exact h.zZ v (.inr (List.mem_cons_of_mem _ hv))
   .obtain⟨s,hs',rfl⟩:=sH.1 hv;intro x hx;rcases ul hx with hx|hx
    .exact hw x hx
    .rw[lW hx];omega
def FX (m:dP)(K:List (List Int)):Prop:=∀ u,u ∈ K->wV m u=0
theorem Pq.zero {V K Q:List (List Int)}(h:Pq m V K Q)(hz:FX m K)(hw:kC m.k w)(hq:∀ q,q ∈ Q->nO w q<0):wV m w=0:=by
 refine (h.reach w hw hq).kill (L:=λu _=>vZ m.n u (vf m.fin)) (Ep m.n (vf m.fin)) λb hb=>?_;obtain⟨u,hu,rfl⟩:=mM hb;exact hz u (fD.1 hu).1
structure Dy (m:dP) (w:List Int):Prop where
 zZ:kC m.k w
 nz:wV m w≠0
 before:∀ u,kC m.k u->nO u w<0->wV m u=0
theorem Dy.unique {v:List Int}(h:Dy m w)(k:Dy m v):w=v:=by
 refine MR (Decidable.byContradiction λhne=>?_);have:=E8 w v;rcases Int.lt_or_gt_of_ne hne with h1|h1
 .exact h.nz (k.before w h.zZ h1)
 .exact k.nz (h.before v k.zZ (by omega))
theorem Pq.first {V K Q:List (List Int)}(h:Pq m V K (w::Q))(hz:FX m K)(hn:wV m w≠0):Dy m w :=
 ⟨h.zZ w (.inr uZ),hn,λu hu hl=>h.zero hz hu λq hq=>by
  rcases List.mem_cons.1 hq with rfl|hq
  .exact hl
  .exact yJ hl (Int.le_of_lt (h.head.2 q hq))⟩
theorem Pq.none {V K:List (List Int)}(h:Pq m V K [])(hz:FX m K)(w:List Int)(hw:kC m.k w):wV m w=0:=h.zero hz hw λq hq=>by cases hq

/-
  M, chapter 37: the end of a word; when states are committed.
-/
import Derived.Test.YteiohkpjgcioaaaGreatDoorKMod70
import Derived.Test.YteiohkpjgcioaaaGreatDoorKNumb
import Derived.KernelRfl
set_option linter.unusedVariables false
set_option linter.unusedSimpArgs false
namespace Go.AL
open Go Go.BigFrame
def xiQ (h:HM)(w:List Int)(t i j:Nat):Rat:=(fwdF h w t).getD i 0*trQ h i j*(emQ h j (symX w (t+1))*(bwdF h w (w.length-1-(t+1))).getD j 0) / likF h w
def showQ (h:HM)(w:List Int)(n i x:Nat):Rat:=sumN (fun t=>if symX w t=x then postQ h w t i else 0) n
def moveQ (h:HM)(w:List Int)(n i j:Nat):Rat:=sumN (fun t=>xiQ h w t i j) n
def showRow (h:HM)(w:List Int)(n i:Nat):List Rat:=(List.range h.sym).map fun x=>showQ h w n i x
def moveRow (h:HM)(w:List Int)(n i:Nat):List Rat:=(List.range h.st).map fun j=>moveQ h w n i j
def exS (h:HM)(w:List Int):List Rat:=if likF h w=0 then [] else if w.length=0 then List.replicate h.st 0 else postF h w 0
def exE (h:HM)(w:List Int):List Rat:=if likF h w=0 then [] else if w.length=0 then List.replicate h.st 0 else postF h w (w.length-1)
def exM (h:HM)(w:List Int):List (List Rat):=if likF h w=0 then [] else (List.range h.st).map fun i=>moveRow h w (w.length-1) i
def exO (h:HM)(w:List Int):List (List Rat):=if likF h w=0 then [] else (List.range h.st).map fun i=>showRow h w w.length i
structure Span where
 lo:Rat
 len:Rat
def Span.part (s:Span)(ch:List Rat)(k:Nat):Span:=⟨(ch.take k).foldl (fun a p=>a+s.len*p) s.lo,s.len*ch.getD k 0⟩
def Span.inside (s t:Span):Prop:=t.lo≤s.lo∧s.lo+s.len≤t.lo+t.len
instance (s t:Span):Decidable (s.inside t):=inferInstanceAs (Decidable (_∧_))
def Span.one:Span:=⟨0,1⟩
def Sure (read s:Span)(ch:List Rat)(k:Nat):Prop:=0<ch.getD k 0∧read.inside (s.part ch k)
instance (read s:Span) (ch:List Rat) (k:Nat):Decidable (Sure read s ch k):=inferInstanceAs (Decidable (_∧_))
structure Rd where
 used:Nat
 read:Span
def Rd.step (bits:List Int)(r:Rd):Rd:=⟨r.used+1,⟨if bits.getD r.used 0=1 then r.read.lo+r.read.len*(1 / 2) else r.read.lo,r.read.len*(1 / 2)⟩⟩
def HM.next (h:HM):Option Nat→List Rat
 | none=>h.ini++[h.empty]
 | some i=>h.trans.getD i []++[h.stop.getD i 0]
inductive Drawing where
 | err (e:Int)
 | run (states word:List Int) (used:Nat)
def partLo (s:Span)(l:List Rat):Rat:=l.foldl (fun a p=>a+s.len*p) s.lo
theorem foldl_sz {B c:Nat}{q:Rat}(hq:sz q≤c):∀ (l:List Rat) (a:Rat),Small B l→sz (l.foldl (fun a p=>a+q*p) a)≤sz a+l.length*(c+B+1)
 | [],a,_=>by simp
 | x::l,a,h=>by
  rw [List.foldl_cons,List.length_cons,Nat.add_mul]
  have h1:=foldl_sz hq l (a+q*x) fun y hy=>h y (List.mem_cons_of_mem _ hy)
  have h2:=sz_add a (q*x)
  have h3:=sz_mul q x
  have h4:=h x mc9
  omega
theorem partLo_sz {B c:Nat}{s:Span}{l:List Rat}(hq:sz s.len≤c)(h:Small B l):sz (partLo s l)≤sz s.lo+l.length*(c+B+1):=foldl_sz hq l s.lo h
structure SpanOK (t:Nat) (s:Span):Prop where
 lo:sz s.lo≤1+t*40000000
 len:sz s.len≤1+t*1024
theorem SpanOK.part {t:Nat}{s:Span}{l:List Rat}(h:SpanOK t s)(ht:t≤600)(hl:Small 1024 l)(hn:l.length≤40)(k:Nat)(hk:k<l.length):SpanOK (t+1) (s.part l k):=by
 have h1:=partLo_sz (B:=1024) (s:=s) (l:=l.take k) h.len (hl.take k)
 have h2:(l.take k).length≤40:=by rw [List.length_take];omega
 have h3:=sz_mul s.len (l.getD k 0)
 have h4:=hl.get (by decide) k
 have h5:=h.lo
 have h6:=h.len
 have h7:(l.take k).length*(1+t*1024+1024+1)≤40*(1+600*1024+1024+1):=Nat.mul_le_mul h2 (by omega)
 refine ⟨?_,?_⟩
 ·show sz (partLo s (l.take k))≤_
  omega
 ·show sz (s.len*l.getD k 0)≤_
  omega
structure RdOK (bits:List Int) (r:Rd):Prop where
 used:r.used≤bits.length
 bits:bits.length≤2000
 lo:sz r.read.lo≤1+3000*r.used
 len:sz r.read.len≤1+r.used
theorem half_eq:((1:Int):Rat) / ((2:Int):Rat)=1 / 2:=by rw [show ((1:Int):Rat)=1 from rfl,show ((2:Int):Rat)=2 from rfl]
theorem half_sz:sz (1 / 2)≤1:=by rw [← half_eq];exact div_sz (by decide) (by decide) (by decide)
theorem RdOK.step {bits:List Int}{r:Rd}(h:RdOK bits r)(hu:r.used<bits.length):RdOK bits (r.step bits):=by
 have h1:=h.lo
 have h2:=h.len
 have h3:=h.bits
 have h4:=sz_mul r.read.len (1 / 2)
 have h5:=half_sz
 have h6:=sz_add r.read.lo (r.read.len*(1 / 2))
 generalize sz (1 / 2)=a5 at h4 h5
 refine ⟨hu,h3,?_,?_⟩
 ·rw [show (r.step bits).used=r.used+1 from rfl,show (r.step bits).read.lo=(if bits.getD r.used 0=1 then r.read.lo+r.read.len*(1 / 2) else r.read.lo) from rfl]
  generalize r.read.lo+r.read.len*(1 / 2)=x6 at h6 ⊢
  generalize r.read.len*(1 / 2)=x4 at h4 h6
  split <;> omega
 ·rw [show (r.step bits).used=r.used+1 from rfl,show (r.step bits).read.len=r.read.len*(1 / 2) from rfl]
  omega
def lexI:List Int→List Int→Int
 | x::xs,y::ys=>if x<y then -1 else if y<x then 1 else lexI xs ys
 | _,_=>0
def cmpI (a b:List Int):Int:=if a.length≠b.length then (if a.length<b.length then -1 else 1) else lexI a b
deriving instance DecidableEq for Drawing
theorem sumN_congr {f g:Nat→Rat}:∀ {n:Nat},(∀ i,i<n→f i=g i)→sumN f n=sumN g n
 | 0,_=>rfl
 | n+1,h=>by rw [sumN,sumN,sumN_congr fun i hi=>h i (by omega),h n (Nat.lt_succ_self n)]
theorem sumN_zero {f:Nat→Rat}:∀ {n:Nat},(∀ i,i<n→f i=0)→sumN f n=0
 | 0,_=>rfl
 | n+1,h=>by rw [sumN,sumN_zero fun i hi=>h i (by omega),h n (Nat.lt_succ_self n)];grind
theorem sumN_add (f g:Nat→Rat):∀ n,sumN (fun i=>f i+g i) n=sumN f n+sumN g n
 | 0=>by rw [sumN,sumN,sumN];grind
 | n+1=>by rw [sumN,sumN,sumN,sumN_add f g n];grind
theorem sumN_mulR (f:Nat→Rat)(c:Rat):∀ n,sumN (fun i=>f i*c) n=sumN f n*c
 | 0=>by rw [sumN,sumN,Rat.zero_mul]
 | n+1=>by rw [sumN,sumN,sumN_mulR f c n,Rat.add_mul]
theorem sumN_mulL (f:Nat→Rat)(c:Rat)(n:Nat):sumN (fun i=>c*f i) n=c*sumN f n:=by
 rw [Rat.mul_comm,← sumN_mulR];exact sumN_congr fun i _=>Rat.mul_comm ..
theorem sumN_swap (f:Nat→Nat→Rat)(m:Nat):∀ n,sumN (fun i=>sumN (fun j=>f i j) m) n=sumN (fun j=>sumN (fun i=>f i j) n) m
 | 0=>by rw [sumN];exact (sumN_zero fun _ _=>rfl).symm
 | n+1=>by
  rw [sumN,sumN_swap f m n,← sumN_add]
  exact sumN_congr fun j _=>rfl
theorem sumN_front (f:Nat→Rat):∀ n,f 0+sumN (fun t=>f (t+1)) n=sumN f (n+1)
 | 0=>by rw [sumN,sumN,sumN];grind
 | n+1=>by rw [sumN,sumN,← sumN_front f n];grind
theorem sumN_pick {v:Nat→Rat}{x n:Nat}(hx:x<n):sumN (fun y=>if x=y then v y else 0) n=v x:=by
 induction n with
 | zero=>omega
 | succ n ih =>
  rw [sumN]
  by_cases hn:x=n
  ·rw [if_pos hn,hn,sumN_zero fun i hi=>if_neg (by omega)];grind
  ·rw [if_neg hn,ih (by omega)];grind
def sumL (l:List Rat):Rat:=sumN (fun i=>l.getD i 0) l.length
structure Fit (h:HM) (w:List Int):Prop where
 row:∀ t,t<w.length→sumL (postF h w t)=1
 show_:∀ i,sumL (showRow h w w.length i)=sumN (fun t=>postQ h w t i) w.length
 out:∀ i,i<h.st→sumL (moveRow h w (w.length-1) i)+postQ h w (w.length-1) i=sumN (fun t=>postQ h w t i) w.length
 into:∀ i,i<h.st→postQ h w 0 i+sumN (fun j=>moveQ h w (w.length-1) j i) h.st=sumN (fun t=>postQ h w t i) w.length
structure Got (h:HM) (w:List Int):Prop where
 pl:(postR h w).length=w.length
 pg:∀ t,t<w.length→(postR h w).getD t []=postF h w t
 sS:exS h w=postF h w 0
 sE:exE h w=postF h w (w.length-1)
 lM:(exM h w).length=h.st
 lO:(exO h w).length=h.st
 gM:∀ i,i<h.st→(exM h w).getD i []=moveRow h w (w.length-1) i
 gO:∀ i,i<h.st→(exO h w).getD i []=showRow h w w.length i
def lsum {α:Type}(f:α→Rat):List α→Rat
 | []=>0
 | x::r=>f x+lsum f r
theorem lsum_append {α:Type}(f:α→Rat):∀ a b:List α,lsum f (a++b)=lsum f a+lsum f b
 | [],b=>by rw [List.nil_append,lsum,Rat.zero_add]
 | x::a,b=>by rw [List.cons_append,lsum,lsum,lsum_append f a b,Rat.add_assoc]
theorem lsum_flatMap {α β:Type}(f:β→Rat)(g:α→List β):∀ l:List α,lsum f (l.flatMap g)=lsum (fun x=>lsum f (g x)) l
 | []=>rfl
 | x::l=>by rw [List.flatMap_cons,lsum_append,lsum_flatMap f g l];rfl
theorem lsum_map {α β:Type}(f:β→Rat)(g:α→β):∀ l:List α,lsum f (l.map g)=lsum (fun x=>f (g x)) l
 | []=>rfl
 | x::l=>by rw [List.map_cons,lsum,lsum_map f g l];rfl
theorem lsum_congr {α:Type}{f g:α→Rat}:∀ {l:List α},(∀ x,x ∈ l→f x=g x)→lsum f l=lsum g l
 | [],_=>rfl
 | x::l,h=>by rw [lsum,lsum,h x mc9,lsum_congr fun y hy=>h y (List.mem_cons_of_mem _ hy)]
theorem lsum_range (f:Nat→Rat):∀ n,lsum f (List.range n)=sumN f n
 | 0=>rfl
 | n+1=>by rw [List.range_succ,lsum_append,lsum_range f n,sumN,lsum,lsum,Rat.add_zero]
def pathsF (n:Nat):Nat→List (List Int)
 | 0=>[[]]
 | k+1=>(pathsF n k).flatMap fun p=>(List.range n).map fun (s:Nat)=>p++[(s:Int)]
def atP (p:List Int)(t:Nat):Nat:=(p.getD t 0).toNat
def wgt (h:HM)(w:List Int)(p:List Int):Nat→Rat
 | 0=>h.ini.getD (atP p 0) 0
 | t+1=>(if t=0 then wgt h w p t else wgt h w p t*trQ h (atP p (t-1)) (atP p t))*emQ h (atP p t) (symX w t)
def rowG (h:HM)(p:Nat→Bool)(g:Nat→Rat):List Rat:=(List.range h.st).map fun i=>if p i=true then g i else 0
def restG (h:HM)(w:List Int)(p:Nat→Nat→Bool):Nat→List Rat
 | 0=>rowG h (p (w.length-1)) fun i=>h.stop.getD i 0
 | d+1=>rowG h (p (w.length-1-(d+1))) fun i=>(aheadF h (i:Nat) (symX w (w.length-1-d)) (restG h w p d) h.st).1
def ahdG (h:HM)(w:List Int)(p:Nat→Nat→Bool)(fr:Int)(t:Nat):Rat × Nat:=aheadF h fr (symX w t) (restG h w p (w.length-1-t)) h.st
def toG (h:HM)(w:List Int)(p:Nat→Nat→Bool):Nat→Int
 | 0=>-1
 | t+1=>((ahdG h w p (toG h w p t) t).2:Nat)
def pathG (h:HM)(w:List Int)(p:Nat→Nat→Bool)(t:Nat):List Int:=(List.range t).map fun i=>toG h w p (i+1)
def bestG (h:HM)(w:List Int)(p:Nat→Nat→Bool):Rat:=(ahdG h w p (-1) 0).1
def every:Nat→Nat→Bool:=fun _ _=>true
structure AhdSpec (h:HM) (fr:Int) (x:Nat) (rest:List Rat) (n:Nat) (r:Rat × Nat):Prop where
 nonneg:0≤r.1
 le:∀ i,i<n→viaQ h fr x rest i≤r.1
 zero:r.1=0→r.2=0
 lt:0<r.1→r.2<n
 eq:0<r.1→viaQ h fr x rest r.2=r.1
 least:0<r.1→∀ i,i<r.2→viaQ h fr x rest i<r.1
def bestR (h:HM)(w:List Int)(p:Nat→Nat→Bool):Rat:=if w.length=0 then h.empty else bestG h w p
def vitP (h:HM)(w:List Int)(p:Nat→Nat→Bool):List Int:=if w.length=0 ∨ bestG h w p=0 then [] else pathG h w p w.length
def vitE (h:HM)(w:List Int)(p:Nat→Nat→Bool):Int:=if bestR h w p=0 then 11 else 0
def setF (sets:List Int)(t:Nat):Nat:=if t<sets.length then (within (sets.getD t 0) 8).toNat else 7
def bitS (x s:Nat):Bool:=decide (x / 2 ^ s % 2=1)
def rowA (x n:Nat):List Int:=((List.range n).filter fun s=>bitS x s).map fun s:Nat=>(s:Int)
def FitsA (h:HM)(w sets:List Int)(n:Nat):Prop:=vitE h w every=0∧∀ t,t<n→bitS (setF sets t) ((vitP h w every).getD t 0).toNat=true
instance (h:HM) (w sets:List Int) (n:Nat):Decidable (FitsA h w sets n):=inferInstanceAs (Decidable (_∧_))
def cmpL:List Int→List Int→Int
 | [],[]=>0
 | [],_::_=>-1
 | _::_,[]=>1
 | a::x,b::y=>if a<b then -1 else if b<a then 1 else cmpL x y
theorem cmpL_self:∀ x:List Int,cmpL x x=0
 | []=>rfl
 | a::x=>by rw [cmpL,if_neg (by omega),if_neg (by omega),cmpL_self x]
theorem cmpL_neg:∀ x y:List Int,cmpL y x = -cmpL x y
 | [],[]=>rfl
 | [],_::_=>rfl
 | _::_,[]=>rfl
 | a :: x, b :: y => by
  rw [cmpL,cmpL,cmpL_neg x y]
  by_cases h1:a<b
  ·rw [if_neg (by omega),if_pos h1,if_pos h1];rfl
  ·rw [if_neg h1]
   by_cases h2:b<a
   ·rw [if_pos h2,if_neg h1,if_pos h2]
   ·rw [if_neg h2,if_neg h2,if_neg h1]
theorem cmpL_zero:∀ {x y:List Int},cmpL x y=0→x=y
 | [],[],_=>rfl
 | [],_::_,h=>by rw [cmpL] at h;exact absurd h (by decide)
 | _::_,[],h=>by rw [cmpL] at h;exact absurd h (by decide)
 | a :: x, b :: y, h => by
  rw [cmpL] at h
  by_cases h1:a<b
  ·rw [if_pos h1] at h;exact absurd h (by decide)
  ·rw [if_neg h1] at h
   by_cases h2:b<a
   ·rw [if_pos h2] at h;exact absurd h (by decide)
   ·rw [if_neg h2] at h
    rw [cmpL_zero h,show a=b by omega]
theorem cmpL_trans:∀ {x y z:List Int},cmpL x y≤0→cmpL y z≤0→cmpL x z≤0
 | [],_,[],_,_=>by rw [cmpL];decide
 | [],_,_::_,_,_=>by rw [cmpL];decide
 | _::_,[],_,h,_=>by rw [cmpL] at h;exact absurd h (by decide)
 | _::_,_::_,[],_,h=>by rw [cmpL] at h;exact absurd h (by decide)
 | a :: x, b :: y, c :: z, h1, h2 => by
  rw [cmpL] at h1 h2 ⊢
  by_cases hab:a<b
  ·by_cases hcb:c<b
   ·rw [if_neg (by omega),if_pos hcb] at h2;exact absurd h2 (by decide)
   ·rw [if_pos (by omega)];decide
  ·rw [if_neg hab] at h1
   by_cases hba:b<a
   ·rw [if_pos hba] at h1;exact absurd h1 (by decide)
   ·rw [if_neg hba] at h1
    by_cases hbc:b<c
    ·rw [if_pos (by omega)];decide
    ·rw [if_neg hbc] at h2
     by_cases hcb:c<b
     ·rw [if_pos hcb] at h2;exact absurd h2 (by decide)
     ·rw [if_neg hcb] at h2
      rw [if_neg (by omega),if_neg (by omega)]
      exact cmpL_trans h1 h2
theorem cmpL_snoc {a b:Int}:∀ {x y:List Int},x.length=y.length→cmpL (x++[a]) (y++[b])=if cmpL x y=0 then (if a<b then -1 else if b<a then 1 else 0) else cmpL x y
 | [],[],_=>by rw [List.nil_append,List.nil_append,cmpL,cmpL,if_pos rfl,cmpL]
 | [],_::_,h=>by simp at h
 | _::_,[],h=>by simp at h
 | c :: x, d :: y, h => by
  rw [List.cons_append,List.cons_append,cmpL,cmpL,cmpL_snoc (by simpa using h)]
  by_cases h1:c<d
  ·rw [if_pos h1,if_pos h1,if_neg (by decide)]
  ·rw [if_neg h1,if_neg h1]
   by_cases h2:d<c
   ·rw [if_pos h2,if_pos h2,if_neg (by decide)]
   ·rw [if_neg h2,if_neg h2]
theorem cmpL_snoc_same {a:Int}{x y:List Int}(h:x.length=y.length):cmpL (x++[a]) (y++[a])=cmpL x y:=by
 rw [cmpL_snoc h]
 split
 ·rename_i e;rw [if_neg (by omega),if_neg (by omega),e]
 ·rfl
section
variable {h:HM}{bb B:Nat}{u:List Int}
def follow (h:HM)(u:List Int)(s i:Nat):Rat:=(restG h u every (u.length-1-s)).getD i 0
end
def lcpL:List Int→List Int→Nat
 | a::x,b::y=>if a=b then lcpL x y+1 else 0
 | _,_=>0
def comF (al:Nat→Bool)(ps:Nat→List Int):Nat→Int × List Int
 | 0=>(-1,[])
 | i + 1 => if al i = true then
   (if (comF al ps i).1<0 then (((min (ps i).length (lcpL (ps i) (ps i)):Nat):Int),ps i) else (((min (comF al ps i).1.toNat (lcpL (ps i) (comF al ps i).2):Nat):Int),(comF al ps i).2)) else comF al ps i
structure ComSpec (al:Nat→Bool) (ps:Nat→List Int) (n:Nat) (c:Int × List Int):Prop where
 none:(∀ i,i<n→al i=false)→c=(-1,[])
 some:(∃ i,i<n∧al i=true)→0≤c.1∧(∃ i,i<n∧al i=true∧c.2=ps i)∧(∀ i,i<n→al i=true→c.1.toNat≤(ps i).length∧(ps i).take c.1.toNat=c.2.take c.1.toNat) ∧
  ∀ m,(∀ i,i<n→al i=true→m≤(ps i).length∧(ps i).take m=c.2.take m)→m≤c.1.toNat
structure Dec where
 t:Nat
 sc:List Rat
 tl:List (List Int)
 dn:List Int
def betterP (x:Rat)(y:List Int)(m:Rat × List Int):Prop:=m.1<x ∨ (x=m.1∧0<x∧cmpL y m.2<0)
instance (x:Rat) (y:List Int) (m:Rat × List Int):Decidable (betterP x y m):=by unfold betterP;infer_instance
def comeQ (h:HM)(o:Dec)(j i:Nat):Rat:=o.sc.getD i 0*trQ h i j
section
variable {h:HM}{bb B:Nat}{u:List Int}{o:Dec}
structure Heads (h:HM) (u:List Int) (t:Nat) (S:Nat→Rat) (Q:Nat→List Int):Prop where
 nonneg:∀ j,j<h.st→0≤S j
 max:∀ p,p ∈ pathsF h.st t→wgt h u p t≤S (atP p (t-1))
 live:∀ j,j<h.st→0<S j→Q j ∈ pathsF h.st t∧atP (Q j) (t-1)=j∧wgt h u (Q j) t=S j∧∀ p,p ∈ pathsF h.st t→atP p (t-1)=j→wgt h u p t=S j→cmpL (Q j) p≤0
structure InvD (h:HM) (u:List Int) (o:Dec):Prop where
 le:o.t≤u.length
 zero:o.t=0→o.sc=[]∧o.tl=[]∧o.dn=[]
 len:o.t≠0→o.sc.length=h.st∧o.tl.length=h.st
 heads:o.t≠0→Heads h u o.t (fun j=>o.sc.getD j 0) fun j=>o.dn++o.tl.getD j []
 dead:∀ j,¬ 0<o.sc.getD j 0→o.tl.getD j []=[]
 some:o.t≠0→∃ j,j<h.st∧0<o.sc.getD j 0
 com:o.t≠0→(comF (fun j=>decide (0<o.sc.getD j 0)) (fun j=>o.tl.getD j []) h.st).1=0
 small:Small (1+2048*o.t) o.sc
structure PickSpec (h:HM) (o:Dec) (j n:Nat) (m:Rat × List Int):Prop where
 nonneg:0≤m.1
 le:∀ i,i<n→comeQ h o j i≤m.1
 pos:0<m.1→∃ i,i<n∧m=(comeQ h o j i,o.tl.getD i [])
 least:0<m.1→∀ i,i<n→comeQ h o j i=m.1→cmpL m.2 (o.tl.getD i [])≤0
end
def endQ (h:HM)(o:Dec)(i:Nat):Rat:=o.sc.getD i 0*h.stop.getD i 0
structure FinSpec (h:HM) (o:Dec) (n:Nat) (m:Rat × List Int):Prop where
 nonneg:0≤m.1
 le:∀ i,i<n→endQ h o i≤m.1
 pos:0<m.1→∃ i,i<n∧m=(endQ h o i,o.tl.getD i [])
 least:0<m.1→∀ i,i<n→endQ h o i=m.1→cmpL m.2 (o.tl.getD i [])≤0
section
variable {h:HM}{bb B:Nat}{u:List Int}{o:Dec}
structure TimesOK (ts:List Int) (n:Nat):Prop where
 ge:∀ s,s<ts.length→(s:Int)+1≤ts.getD s 0
 le:∀ s,s<ts.length→ts.getD s 0≤n
 mono:∀ s,s+1<ts.length→ts.getD s 0≤ts.getD (s+1) 0
end
end Go.AL

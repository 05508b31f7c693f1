/-
  M, chapter 37: the end of a word; when states are committed.
-/
import Derived.Test.YtmcoihfkniccdaaGreatDoorKMod40c
set_option linter.unusedVariables false
set_option linter.unusedSimpArgs false
namespace Go.AL
open Go Go.BigFrame
theorem sumN_congr {f g:Nat→Rat}:∀ {n:Nat},(∀ i,i<n→f i=g i)→sumN f n=sumN g n
 | 0,_=>rfl
 | n+1,h=>by rw [sumN,sumN,sumN_congr fun i hi=>h i (by omega),h n (Nat.lt_succ_self n)]
theorem sumN_zero {f:Nat→Rat}:∀ {n:Nat},(∀ i,i<n→f i=0)→sumN f n=0
 | 0,_=>rfl
 | n+1,h=>by rw [sumN,sumN_zero fun i hi=>h i (by omega),h n (Nat.lt_succ_self n)];grind
theorem sumN_add (f g:Nat→Rat):∀ n,sumN (fun i=>f i+g i) n=sumN f n+sumN g n
 | 0=>by rw [sumN,sumN,sumN];grind
 | n+1=>by rw [sumN,sumN,sumN,sumN_add f g n];grind
theorem sumN_mulR (f:Nat→Rat)(c:Rat):∀ n,sumN (fun i=>f i*c) n=sumN f n*c
 | 0=>by rw [sumN,sumN,Rat.zero_mul]
 | n+1=>by rw [sumN,sumN,sumN_mulR f c n,Rat.add_mul]
theorem sumN_mulL (f:Nat→Rat)(c:Rat)(n:Nat):sumN (fun i=>c*f i) n=c*sumN f n:=by
 rw [Rat.mul_comm,← sumN_mulR];exact sumN_congr fun i _=>Rat.mul_comm ..
theorem sumN_divR (f:Nat→Rat)(c:Rat)(n:Nat):sumN (fun i=>f i / c) n=sumN f n / c:=by
 rw [Rat.div_def,← sumN_mulR];exact sumN_congr fun i _=>Rat.div_def ..
theorem sumN_swap (f:Nat→Nat→Rat)(m:Nat):∀ n,sumN (fun i=>sumN (fun j=>f i j) m) n=sumN (fun j=>sumN (fun i=>f i j) n) m
 | 0=>by rw [sumN];exact (sumN_zero fun _ _=>rfl).symm
 | n+1=>by
  rw [sumN,sumN_swap f m n,← sumN_add]
  exact sumN_congr fun j _=>rfl
theorem sumN_front (f:Nat→Rat):∀ n,f 0+sumN (fun t=>f (t+1)) n=sumN f (n+1)
 | 0=>by rw [sumN,sumN,sumN];grind
 | n+1=>by rw [sumN,sumN,← sumN_front f n];grind
theorem step_sum {h:HM}{w:List Int}{t d:Nat}(ht:d+1+t+1=w.length):sumN (fun i=>(fwdF h w t).getD i 0*(bwdF h w (d+1)).getD i 0) h.st=sumN (fun j=>(fwdF h w (t+1)).getD j 0*(bwdF h w d).getD j 0) h.st:=by
 have e1:∀ i,i<h.st→(fwdF h w t).getD i 0*(bwdF h w (d+1)).getD i 0=sumN (fun j=>(fwdF h w t).getD i 0*trQ h i j*(emQ h j (symX w (t+1))*(bwdF h w d).getD j 0)) h.st:=fun i hi=>by
  rw [bwd_pos (d:=d+1) (a:=t) (by omega) (by omega) hi,sufF,← sumN_mulL]
  exact sumN_congr fun j _=>by rw [show d+1-1=d from rfl,Rat.mul_assoc]
 rw [sumN_congr e1,sumN_swap]
 refine sumN_congr fun j hj=>?_
 rw [sumN_mulR,fwd_pos (t:=t+1) (by omega) hj,show t+1-1=t from rfl,preF,Rat.mul_assoc]
theorem fb_sum {h:HM}{w:List Int}:∀ {d t:Nat},d+t+1=w.length→sumN (fun i=>(fwdF h w t).getD i 0*(bwdF h w d).getD i 0) h.st=likF h w
 | 0,t,ht=>by
  rw [show likF h w=likN h (fwdF h w (w.length-1)) h.st from if_neg (by omega),likN,show w.length-1=t by omega]
  exact sumN_congr fun i hi=>by rw [bwd_zero hi]
 | d+1,t,ht=>by
  rw [step_sum (by omega)]
  exact fb_sum (by omega)
theorem post_row {h:HM}{w:List Int}{t:Nat}(ht:t<w.length)(hz:likF h w≠0):sumN (fun i=>postQ h w t i) h.st=1:=by
 unfold postQ
 rw [sumN_divR,fb_sum (by omega),Rat.div_def,Rat.mul_inv_cancel _ hz]
theorem xi_row {h:HM}{w:List Int}{t i:Nat}(ht:t+1<w.length)(hi:i<h.st):sumN (fun j=>xiQ h w t i j) h.st=postQ h w t i:=by
 unfold xiQ postQ
 rw [sumN_divR,bwd_pos (d:=w.length-1-t) (a:=t) (by omega) (by omega) hi,sufF,← sumN_mulL,show w.length-1-(t+1)=w.length-1-t-1 by omega]
 congr 1
 exact sumN_congr fun j _=>Rat.mul_assoc ..
theorem xi_col {h:HM}{w:List Int}{t j:Nat}(hj:j<h.st):sumN (fun i=>xiQ h w t i j) h.st=postQ h w (t+1) j:=by
 unfold xiQ postQ
 rw [sumN_divR,sumN_mulR,fwd_pos (t:=t+1) (by omega) hj,show t+1-1=t from rfl,preF,Rat.mul_assoc]
theorem sumN_pick {v:Nat→Rat}{x n:Nat}(hx:x<n):sumN (fun y=>if x=y then v y else 0) n=v x:=by
 induction n with
 | zero=>omega
 | succ n ih =>
  rw [sumN]
  by_cases hn:x=n
  ·rw [if_pos hn,hn,sumN_zero fun i hi=>if_neg (by omega)];grind
  ·rw [if_neg hn,ih (by omega)];grind
theorem show_sum {h:HM}{w:List Int}{i:Nat}:∀ {n:Nat},(∀ t,t<n→symX w t<h.sym)→sumN (fun x=>showQ h w n i x) h.sym=sumN (fun t=>postQ h w t i) n
 | 0,_=>sumN_zero fun _ _=>rfl
 | n+1,hx=>by
  rw [sumN,← show_sum fun t ht=>hx t (by omega)]
  rw [← sumN_pick (v:=fun _=>postQ h w n i) (hx n (Nat.lt_succ_self n)),← sumN_add]
  exact sumN_congr fun x _=>rfl
theorem move_sum {h:HM}{w:List Int}{i:Nat}(hi:i<h.st):∀ {n:Nat},n<w.length→sumN (fun j=>moveQ h w n i j) h.st+postQ h w n i=sumN (fun t=>postQ h w t i) (n+1):=fun {n} hn=>by
 rw [sumN]
 congr 1
 unfold moveQ
 rw [sumN_swap]
 exact sumN_congr fun t ht=>xi_row (by omega) hi
theorem into_sum {h:HM}{w:List Int}{i n:Nat}(hi:i<h.st):postQ h w 0 i+sumN (fun j=>moveQ h w n j i) h.st=sumN (fun t=>postQ h w t i) (n+1):=by
 rw [← sumN_front]
 congr 1
 unfold moveQ
 rw [sumN_swap]
 exact sumN_congr fun t _=>xi_col hi
def sumL (l:List Rat):Rat:=sumN (fun i=>l.getD i 0) l.length
theorem sumL_map {f:Nat→Rat}(n:Nat):sumL ((List.range n).map f)=sumN f n:=by
 unfold sumL
 rw [lm9,List.length_range]
 exact sumN_congr fun i hi=>map_getD_range _ _ hi
structure Fit (h:HM) (w:List Int):Prop where
 row:∀ t,t<w.length→sumL (postF h w t)=1
 show_:∀ i,sumL (showRow h w w.length i)=sumN (fun t=>postQ h w t i) w.length
 out:∀ i,i<h.st→sumL (moveRow h w (w.length-1) i)+postQ h w (w.length-1) i=sumN (fun t=>postQ h w t i) w.length
 into:∀ i,i<h.st→postQ h w 0 i+sumN (fun j=>moveQ h w (w.length-1) j i) h.st=sumN (fun t=>postQ h w t i) w.length
theorem fit {h:HM}{w:List Int}(hx:∀ t,t<w.length→symX w t<h.sym)(hz:likF h w≠0)(hn:w.length≠0):Fit h w :=
 ⟨fun t ht=>(sumL_map _).trans (post_row ht hz),fun i=>(sumL_map _).trans (show_sum hx),
  fun i hi=>by rw [show moveRow h w (w.length-1) i=(List.range h.st).map fun j=>moveQ h w (w.length-1) i j from rfl,sumL_map,move_sum hi (by omega),show w.length-1+1=w.length by omega],
  fun i hi=>by rw [into_sum hi,show w.length-1+1=w.length by omega]⟩
structure Got (h:HM) (w:List Int):Prop where
 pl:(postR h w).length=w.length
 pg:∀ t,t<w.length→(postR h w).getD t []=postF h w t
 sS:exS h w=postF h w 0
 sE:exE h w=postF h w (w.length-1)
 lM:(exM h w).length=h.st
 lO:(exO h w).length=h.st
 gM:∀ i,i<h.st→(exM h w).getD i []=moveRow h w (w.length-1) i
 gO:∀ i,i<h.st→(exO h w).getD i []=showRow h w w.length i
def lsum {α:Type}(f:α→Rat):List α→Rat
 | []=>0
 | x::r=>f x+lsum f r
theorem lsum_append {α:Type}(f:α→Rat):∀ a b:List α,lsum f (a++b)=lsum f a+lsum f b
 | [],b=>by rw [List.nil_append,lsum,Rat.zero_add]
 | x::a,b=>by rw [List.cons_append,lsum,lsum,lsum_append f a b,Rat.add_assoc]
theorem lsum_map {α β:Type}(f:β→Rat)(g:α→β):∀ l:List α,lsum f (l.map g)=lsum (fun x=>f (g x)) l
 | []=>rfl
 | x::l=>by rw [List.map_cons,lsum,lsum_map f g l];rfl
theorem lsum_congr {α:Type}{f g:α→Rat}:∀ {l:List α},(∀ x,x ∈ l→f x=g x)→lsum f l=lsum g l
 | [],_=>rfl
 | x::l,h=>by rw [lsum,lsum,h x mc9,lsum_congr fun y hy=>h y (List.mem_cons_of_mem _ hy)]
def pathsF (n:Nat):Nat→List (List Int)
 | 0=>[[]]
 | k+1=>(pathsF n k).flatMap fun p=>(List.range n).map fun (s:Nat)=>p++[(s:Int)]
def atP (p:List Int)(t:Nat):Nat:=(p.getD t 0).toNat
def wgt (h:HM)(w:List Int)(p:List Int):Nat→Rat
 | 0=>h.ini.getD (atP p 0) 0
 | t+1=>(if t=0 then wgt h w p t else wgt h w p t*trQ h (atP p (t-1)) (atP p t))*emQ h (atP p t) (symX w t)
def rowG (h:HM)(p:Nat→Bool)(g:Nat→Rat):List Rat:=(List.range h.st).map fun i=>if p i=true then g i else 0
def restG (h:HM)(w:List Int)(p:Nat→Nat→Bool):Nat→List Rat
 | 0=>rowG h (p (w.length-1)) fun i=>h.stop.getD i 0
 | d+1=>rowG h (p (w.length-1-(d+1))) fun i=>(aheadF h (i:Nat) (symX w (w.length-1-d)) (restG h w p d) h.st).1
def ahdG (h:HM)(w:List Int)(p:Nat→Nat→Bool)(fr:Int)(t:Nat):Rat × Nat:=aheadF h fr (symX w t) (restG h w p (w.length-1-t)) h.st
def toG (h:HM)(w:List Int)(p:Nat→Nat→Bool):Nat→Int
 | 0=>-1
 | t+1=>((ahdG h w p (toG h w p t) t).2:Nat)
def pathG (h:HM)(w:List Int)(p:Nat→Nat→Bool)(t:Nat):List Int:=(List.range t).map fun i=>toG h w p (i+1)
def bestG (h:HM)(w:List Int)(p:Nat→Nat→Bool):Rat:=(ahdG h w p (-1) 0).1
def every:Nat→Nat→Bool:=fun _ _=>true
structure AhdSpec (h:HM) (fr:Int) (x:Nat) (rest:List Rat) (n:Nat) (r:Rat × Nat):Prop where
 nonneg:0≤r.1
 le:∀ i,i<n→viaQ h fr x rest i≤r.1
 zero:r.1=0→r.2=0
 lt:0<r.1→r.2<n
 eq:0<r.1→viaQ h fr x rest r.2=r.1
 least:0<r.1→∀ i,i<r.2→viaQ h fr x rest i<r.1
def bestR (h:HM)(w:List Int)(p:Nat→Nat→Bool):Rat:=if w.length=0 then h.empty else bestG h w p
def vitP (h:HM)(w:List Int)(p:Nat→Nat→Bool):List Int:=if w.length=0 ∨ bestG h w p=0 then [] else pathG h w p w.length
def vitE (h:HM)(w:List Int)(p:Nat→Nat→Bool):Int:=if bestR h w p=0 then 11 else 0
def setF (sets:List Int)(t:Nat):Nat:=if t<sets.length then (within (sets.getD t 0) 8).toNat else 7
def bitS (x s:Nat):Bool:=decide (x / 2 ^ s % 2=1)
def rowA (x n:Nat):List Int:=((List.range n).filter fun s=>bitS x s).map fun s:Nat=>(s:Int)
def FitsA (h:HM)(w sets:List Int)(n:Nat):Prop:=vitE h w every=0∧∀ t,t<n→bitS (setF sets t) ((vitP h w every).getD t 0).toNat=true
instance (h:HM) (w sets:List Int) (n:Nat):Decidable (FitsA h w sets n):=inferInstanceAs (Decidable (_∧_))
def cmpL:List Int→List Int→Int
 | [],[]=>0
 | [],_::_=>-1
 | _::_,[]=>1
 | a::x,b::y=>if a<b then -1 else if b<a then 1 else cmpL x y
theorem cmpL_self:∀ x:List Int,cmpL x x=0
 | []=>rfl
 | a::x=>by rw [cmpL,if_neg (by omega),if_neg (by omega),cmpL_self x]
theorem cmpL_neg:∀ x y:List Int,cmpL y x = -cmpL x y
 | [],[]=>rfl
 | [],_::_=>rfl
 | _::_,[]=>rfl
 | a :: x, b :: y => by
  rw [cmpL,cmpL,cmpL_neg x y]
  by_cases h1:a<b
  ·rw [if_neg (by omega),if_pos h1,if_pos h1];rfl
  ·rw [if_neg h1]
   by_cases h2:b<a
   ·rw [if_pos h2,if_neg h1,if_pos h2]
   ·rw [if_neg h2,if_neg h2,if_neg h1]
theorem cmpL_zero:∀ {x y:List Int},cmpL x y=0→x=y
 | [],[],_=>rfl
 | [],_::_,h=>by rw [cmpL] at h;exact absurd h (by decide)
 | _::_,[],h=>by rw [cmpL] at h;exact absurd h (by decide)
 | a :: x, b :: y, h => by
  rw [cmpL] at h
  by_cases h1:a<b
  ·rw [if_pos h1] at h;exact absurd h (by decide)
  ·rw [if_neg h1] at h
   by_cases h2:b<a
   ·rw [if_pos h2] at h;exact absurd h (by decide)
   ·rw [if_neg h2] at h
    rw [cmpL_zero h,show a=b by omega]
theorem cmpL_trans:∀ {x y z:List Int},cmpL x y≤0→cmpL y z≤0→cmpL x z≤0
 | [],_,[],_,_=>by rw [cmpL];decide
 | [],_,_::_,_,_=>by rw [cmpL];decide
 | _::_,[],_,h,_=>by rw [cmpL] at h;exact absurd h (by decide)
 | _::_,_::_,[],_,h=>by rw [cmpL] at h;exact absurd h (by decide)
 | a :: x, b :: y, c :: z, h1, h2 => by
  rw [cmpL] at h1 h2 ⊢
  by_cases hab:a<b
  ·by_cases hcb:c<b
   ·rw [if_neg (by omega),if_pos hcb] at h2;exact absurd h2 (by decide)
   ·rw [if_pos (by omega)];decide
  ·rw [if_neg hab] at h1
   by_cases hba:b<a
   ·rw [if_pos hba] at h1;exact absurd h1 (by decide)
   ·rw [if_neg hba] at h1
    by_cases hbc:b<c
    ·rw [if_pos (by omega)];decide
    ·rw [if_neg hbc] at h2
     by_cases hcb:c<b
     ·rw [if_pos hcb] at h2;exact absurd h2 (by decide)
     ·rw [if_neg hcb] at h2
      rw [if_neg (by omega),if_neg (by omega)]
      exact cmpL_trans h1 h2
theorem cmpL_snoc {a b:Int}:∀ {x y:List Int},x.length=y.length→cmpL (x++[a]) (y++[b])=if cmpL x y=0 then (if a<b then -1 else if b<a then 1 else 0) else cmpL x y
 | [],[],_=>by rw [List.nil_append,List.nil_append,cmpL,cmpL,if_pos rfl,cmpL]
 | [],_::_,h=>by simp at h
 | _::_,[],h=>by simp at h
 | c :: x, d :: y, h => by
  rw [List.cons_append,List.cons_append,cmpL,cmpL,cmpL_snoc (by simpa using h)]
  by_cases h1:c<d
  ·rw [if_pos h1,if_pos h1,if_neg (by decide)]
  ·rw [if_neg h1,if_neg h1]
   by_cases h2:d<c
   ·rw [if_pos h2,if_pos h2,if_neg (by decide)]
   ·rw [if_neg h2,if_neg h2]
theorem cmpL_snoc_same {a:Int}{x y:List Int}(h:x.length=y.length):cmpL (x++[a]) (y++[a])=cmpL x y:=by
 rw [cmpL_snoc h]
 split
 ·rename_i e;rw [if_neg (by omega),if_neg (by omega),e]
 ·rfl
section
variable {h:HM}{bb B:Nat}{u:List Int}
def follow (h:HM)(u:List Int)(s i:Nat):Rat:=(restG h u every (u.length-1-s)).getD i 0
end
def lcpL:List Int→List Int→Nat
 | a::x,b::y=>if a=b then lcpL x y+1 else 0
 | _,_=>0
def comF (al:Nat→Bool)(ps:Nat→List Int):Nat→Int × List Int
 | 0=>(-1,[])
 | i + 1 => if al i = true then
   (if (comF al ps i).1<0 then (((min (ps i).length (lcpL (ps i) (ps i)):Nat):Int),ps i) else (((min (comF al ps i).1.toNat (lcpL (ps i) (comF al ps i).2):Nat):Int),(comF al ps i).2)) else comF al ps i
structure ComSpec (al:Nat→Bool) (ps:Nat→List Int) (n:Nat) (c:Int × List Int):Prop where
 none:(∀ i,i<n→al i=false)→c=(-1,[])
 some:(∃ i,i<n∧al i=true)→0≤c.1∧(∃ i,i<n∧al i=true∧c.2=ps i)∧(∀ i,i<n→al i=true→c.1.toNat≤(ps i).length∧(ps i).take c.1.toNat=c.2.take c.1.toNat) ∧
  ∀ m,(∀ i,i<n→al i=true→m≤(ps i).length∧(ps i).take m=c.2.take m)→m≤c.1.toNat
structure Dec where
 t:Nat
 sc:List Rat
 tl:List (List Int)
 dn:List Int
def betterP (x:Rat)(y:List Int)(m:Rat × List Int):Prop:=m.1<x ∨ (x=m.1∧0<x∧cmpL y m.2<0)
instance (x:Rat) (y:List Int) (m:Rat × List Int):Decidable (betterP x y m):=by unfold betterP;infer_instance
def comeQ (h:HM)(o:Dec)(j i:Nat):Rat:=o.sc.getD i 0*trQ h i j
section
variable {h:HM}{bb B:Nat}{u:List Int}{o:Dec}
structure Heads (h:HM) (u:List Int) (t:Nat) (S:Nat→Rat) (Q:Nat→List Int):Prop where
 nonneg:∀ j,j<h.st→0≤S j
 max:∀ p,p ∈ pathsF h.st t→wgt h u p t≤S (atP p (t-1))
 live:∀ j,j<h.st→0<S j→Q j ∈ pathsF h.st t∧atP (Q j) (t-1)=j∧wgt h u (Q j) t=S j∧∀ p,p ∈ pathsF h.st t→atP p (t-1)=j→wgt h u p t=S j→cmpL (Q j) p≤0
structure InvD (h:HM) (u:List Int) (o:Dec):Prop where
 le:o.t≤u.length
 zero:o.t=0→o.sc=[]∧o.tl=[]∧o.dn=[]
 len:o.t≠0→o.sc.length=h.st∧o.tl.length=h.st
 heads:o.t≠0→Heads h u o.t (fun j=>o.sc.getD j 0) fun j=>o.dn++o.tl.getD j []
 dead:∀ j,¬ 0<o.sc.getD j 0→o.tl.getD j []=[]
 some:o.t≠0→∃ j,j<h.st∧0<o.sc.getD j 0
 com:o.t≠0→(comF (fun j=>decide (0<o.sc.getD j 0)) (fun j=>o.tl.getD j []) h.st).1=0
 small:Small (1+2048*o.t) o.sc
structure PickSpec (h:HM) (o:Dec) (j n:Nat) (m:Rat × List Int):Prop where
 nonneg:0≤m.1
 le:∀ i,i<n→comeQ h o j i≤m.1
 pos:0<m.1→∃ i,i<n∧m=(comeQ h o j i,o.tl.getD i [])
 least:0<m.1→∀ i,i<n→comeQ h o j i=m.1→cmpL m.2 (o.tl.getD i [])≤0
end
def endQ (h:HM)(o:Dec)(i:Nat):Rat:=o.sc.getD i 0*h.stop.getD i 0
structure FinSpec (h:HM) (o:Dec) (n:Nat) (m:Rat × List Int):Prop where
 nonneg:0≤m.1
 le:∀ i,i<n→endQ h o i≤m.1
 pos:0<m.1→∃ i,i<n∧m=(endQ h o i,o.tl.getD i [])
 least:0<m.1→∀ i,i<n→endQ h o i=m.1→cmpL m.2 (o.tl.getD i [])≤0
section
variable {h:HM}{bb B:Nat}{u:List Int}{o:Dec}
structure TimesOK (ts:List Int) (n:Nat):Prop where
 ge:∀ s,s<ts.length→(s:Int)+1≤ts.getD s 0
 le:∀ s,s<ts.length→ts.getD s 0≤n
 mono:∀ s,s+1<ts.length→ts.getD s 0≤ts.getD (s+1) 0
end
end Go.AL

/-
  M, chapter 37: the end of a word; when states are committed.
-/
import Derived.Test.YtocehciipjhlkaaGreatDoorKMod34
import Derived.Test.YtocehciipjhlkaaGreatDoorKFwdK
set_option linter.unusedVariables false
set_option linter.unusedSimpArgs false
namespace Go.AL
open Go Go.BigFrame
inductive SpanV (n:Nat) (B:List (List Rat)):(Nat→Rat)→Prop
 | zero {u:Nat→Rat} (h:∀ i,i<n→u i=0):SpanV n B u
 | add {u u':Nat→Rat} {b:List Rat} (c:Rat) (hb:b ∈ B) (hu:SpanV n B u) (h:∀ i,i<n→u' i=u i+c*b.getD i 0):SpanV n B u'
abbrev vf (l:List Rat):Nat→Rat:=fun i=>l.getD i 0
section
variable {n:Nat}{B C:List (List Rat)}{u v:Nat→Rat}
theorem SpanV.congr (h:SpanV n B u)(e:∀ i,i<n→v i=u i):SpanV n B v:=by
 cases h with
 | zero h=>exact .zero fun i hi=>(e i hi).trans (h i hi)
 | add c hb hu h=>exact .add c hb hu fun i hi=>(e i hi).trans (h i hi)
theorem SpanV.mem {b:List Rat}(hb:b ∈ B):SpanV n B (vf b):=.add 1 hb (.zero (u:=fun _=>0) fun _ _=>rfl) fun i _=>by rw [Rat.one_mul,Rat.zero_add]
theorem SpanV.mono (h:SpanV n B u)(hs:∀ b,b ∈ B→b ∈ C):SpanV n C u:=by
 induction h with
 | zero h=>exact .zero h
 | add c hb _ h ih=>exact .add c (hs _ hb) ih h
theorem SpanV.plus (h:SpanV n B u)(k:SpanV n B v):SpanV n B fun i=>u i+v i:=by
 induction k with
 | zero k=>exact h.congr fun i hi=>by rw [k i hi,Rat.add_zero]
 | add c hb _ k ih=>exact .add c hb ih fun i hi=>by rw [k i hi,Rat.add_assoc]
theorem SpanV.smul (h:SpanV n B u)(a:Rat):SpanV n B fun i=>a*u i:=by
 induction h with
 | zero h=>exact .zero fun i hi=>by rw [h i hi,Rat.mul_zero]
 | add c hb _ h ih=>exact .add (a*c) hb ih fun i hi=>by rw [h i hi,Rat.mul_add,Rat.mul_assoc]
theorem SpanV.trans (h:SpanV n B u)(k:∀ b,b ∈ B→SpanV n C (vf b)):SpanV n C u:=by
 induction h with
 | zero h=>exact .zero h
 | add c hb _ h ih=>exact (ih.plus ((k _ hb).smul c)).congr fun i hi=>h i hi
structure LinM (n m:Nat) (L:(Nat→Rat)→Nat→Rat):Prop where
 loc:∀ u v,(∀ i,i<n→u i=v i)→∀ j,j<m→L u j=L v j
 add:∀ u v c j,j<m→L (fun i=>u i+c*v i) j=L u j+c*L v j
 zero:∀ j,j<m→L (fun _=>0) j=0
theorem SpanV.map {m:Nat}{L:(Nat→Rat)→Nat→Rat}(hL:LinM n m L)(h:SpanV n B u)(k:∀ b,b ∈ B→SpanV m C (L (vf b))):SpanV m C (L u):=by
 induction h with
 | @zero u h=>exact .zero fun j hj=>(hL.loc u (fun _=>0) h j hj).trans (hL.zero j hj)
 | @add u u' b c hb _ h ih =>
  refine (ih.plus ((k _ hb).smul c)).congr fun j hj=>?_
  rw [hL.loc u' (fun i=>u i+c*vf b i) h j hj,hL.add u (vf b) c j hj]
theorem SpanV.kill {L:(Nat→Rat)→Nat→Rat}(hL:LinM n 1 L)(h:SpanV n B u)(k:∀ b,b ∈ B→L (vf b) 0=0):L u 0=0:=by
 induction h with
 | @zero u h=>exact (hL.loc u (fun _=>0) h 0 (by decide)).trans (hL.zero 0 (by decide))
 | @add u u' b c hb _ h ih=>rw [hL.loc u' (fun i=>u i+c*vf b i) h 0 (by decide),hL.add u (vf b) c 0 (by decide),ih,k _ hb,Rat.mul_zero,Rat.add_zero]
theorem SpanV.split {r:List Rat}(h:SpanV n (r::B) u):∃ (c:Rat) (w:Nat→Rat),SpanV n B w∧∀ i,i<n→u i=c*r.getD i 0+w i:=by
 induction h with
 | zero h=>exact ⟨0,fun _=>0,.zero fun _ _=>rfl,fun i hi=>by rw [h i hi,Rat.zero_mul,Rat.add_zero]⟩
 | @add u u' b a hb _ h ih =>
  obtain ⟨c,w,h1,h2⟩:=ih
  rcases List.mem_cons.1 hb with rfl|hb
  ·exact ⟨c+a,w,h1,fun i hi=>by rw [h i hi,h2 i hi,Rat.add_mul,Rat.add_assoc,Rat.add_assoc,Rat.add_comm (w i)]⟩
  ·exact ⟨c,fun i=>w i+a*b.getD i 0,.add a hb h1 fun i _=>rfl,fun i hi=>by rw [h i hi,h2 i hi,Rat.add_assoc]⟩
end
structure SRow where
 v:List Rat
 c:List Rat
 p:Nat
instance:Inhabited SRow:=⟨⟨[],[],0⟩⟩
def qotR (w:List Rat)(r:SRow):Rat:=w.getD r.p 0 / r.v.getD r.p 0
def redStep (w:List Rat)(r:SRow):List Rat:=(List.range w.length).map fun i=>w.getD i 0-qotR w r*r.v.getD i 0
def redV:List SRow→List Rat→List Rat
 | [],w=>w
 | r::rs,w=>redV rs (redStep w r)
def rowsS (rs:List SRow):List (List Rat):=rs.map (·.v)
structure Ech (n:Nat) (rs:List SRow):Prop where
 piv:∀ r,r ∈ rs→r.p<n∧r.v.getD r.p 0≠0
 zero:rs.Pairwise fun a b=>b.v.getD a.p 0=0
section
variable {n:Nat}{rs:List SRow}{r:SRow}{w:List Rat}
theorem redStep_len:(redStep w r).length=w.length:=by simp [redStep]
theorem redV_len:∀ (rs:List SRow) (w:List Rat),(redV rs w).length=w.length
 | [],_=>rfl
 | r::rs,w=>by rw [redV,redV_len rs,redStep_len]
theorem redStep_get {i:Nat}(hi:i<w.length):(redStep w r).getD i 0=w.getD i 0-qotR w r*r.v.getD i 0:=map_getD_range _ _ hi
theorem redStep_piv (hp:r.p<w.length)(h0:r.v.getD r.p 0≠0):(redStep w r).getD r.p 0=0:=by
 rw [redStep_get hp,qotR,Rat.div_mul_cancel h0,Rat.sub_self]
theorem redV_span:∀ (rs:List SRow) (w:List Rat),SpanV w.length (rowsS rs) fun i=>w.getD i 0-(redV rs w).getD i 0
 | [],w=>.zero fun i _=>by rw [redV,Rat.sub_self]
 | r::rs,w=>by
  have ih:=redV_span rs (redStep w r)
  rw [redStep_len] at ih
  refine .add (b:=r.v) (qotR w r) mc9 (ih.mono fun b hb=>List.mem_cons_of_mem _ hb) fun i hi=>?_
  rw [redStep_get hi,redV]
  rw [Rat.sub_eq_add_neg,Rat.sub_eq_add_neg,Rat.sub_eq_add_neg,Rat.add_assoc,Rat.add_assoc,Rat.add_comm (-(qotR w r*_)),Rat.add_assoc,Rat.add_neg_cancel,Rat.add_zero]
theorem redV_keep:∀ {rs:List SRow} {w:List Rat} {p:Nat},p<w.length→w.getD p 0=0→(∀ r,r ∈ rs→r.v.getD p 0=0)→(redV rs w).getD p 0=0
 | [],_,_,_,h,_=>h
 | r::rs,w,p,hp,h,hz=>by
  rw [redV]
  refine redV_keep (by rw [redStep_len];exact hp) ?_ fun q hq=>hz q (List.mem_cons_of_mem _ hq)
  rw [redStep_get hp,h,hz r mc9,Rat.mul_zero,Rat.sub_self]
theorem Ech.tail (e:Ech n (r::rs)):Ech n rs:=⟨fun q hq=>e.piv q (List.mem_cons_of_mem _ hq),(List.pairwise_cons.1 e.zero).2⟩
theorem redV_piv:∀ {rs:List SRow} {w:List Rat},Ech n rs→w.length=n→∀ r,r ∈ rs→(redV rs w).getD r.p 0=0
 | r :: rs, w, e, hw, q, hq => by
  rw [redV]
  rcases List.mem_cons.1 hq with rfl|hq
  ·obtain ⟨p1,p2⟩:=e.piv q mc9
   exact redV_keep (by rw [redStep_len,hw];exact p1) (redStep_piv (by rw [hw];exact p1) p2) (List.pairwise_cons.1 e.zero).1
  ·exact redV_piv e.tail (by rw [redStep_len];exact hw) q hq
theorem Ech.indep:∀ {rs:List SRow} {u:Nat→Rat},Ech n rs→SpanV n (rowsS rs) u→(∀ r,r ∈ rs→u r.p=0)→∀ i,i<n→u i=0
 | [],u,_,h,_,i,hi=>by
  cases h with
  | zero h=>exact h i hi
  | add _ hb=>cases hb
 | r :: rs, u, e, h, hz, i, hi => by
  obtain ⟨c,w,h1,h2⟩:=h.split
  obtain ⟨p1,p2⟩:=e.piv r mc9
  have hw0:∀ {w:Nat→Rat},SpanV n (rowsS rs) w→w r.p=0:=fun {w} h=>by
   induction h with
   | zero h=>exact h _ p1
   | add c hb _ h ih =>
    obtain ⟨q,hq,rfl⟩:=mm9 hb
    rw [h _ p1,ih,(List.pairwise_cons.1 e.zero).1 q hq,Rat.mul_zero,Rat.add_zero]
  have hc:c=0:=by
   have:=h2 _ p1
   rw [hz r mc9,hw0 h1,Rat.add_zero] at this
   rcases Rat.mul_eq_zero.1 this.symm with h|h
   ·exact h
   ·exact absurd h p2
  have h3:∀ j,j<n→u j=w j:=fun j hj=>by rw [h2 j hj,hc,Rat.zero_mul,Rat.zero_add]
  rw [h3 i hi]
  exact Ech.indep e.tail h1 (fun q hq=>by rw [← h3 _ (e.piv q (List.mem_cons_of_mem _ hq)).1];exact hz q (List.mem_cons_of_mem _ hq)) i hi
def allZ (w:List Rat):Prop:=∀ i,i<w.length→w.getD i 0=0
theorem red_iff (e:Ech n rs)(hw:w.length=n):allZ (redV rs w) ↔ SpanV n (rowsS rs) (vf w):=by
 have hs:=redV_span rs w
 rw [hw] at hs
 constructor
 ·intro h
  refine hs.congr fun i hi=>?_
  rw [h i (by rw [redV_len,hw];exact hi),Rat.sub_eq_add_neg,Rat.neg_zero,Rat.add_zero]
 ·intro h i hi
  rw [redV_len,hw] at hi
  refine Ech.indep e (u:=vf (redV rs w)) ?_ (redV_piv e hw) i hi
  refine (h.plus (hs.smul (-1))).congr fun j hj=>?_
  show (redV rs w).getD j 0=w.getD j 0 + -1*(w.getD j 0-(redV rs w).getD j 0)
  rw [Rat.neg_mul,Rat.one_mul,Rat.neg_sub,Rat.sub_eq_add_neg,Rat.add_comm (w.getD j 0),Rat.add_assoc,Rat.neg_add_cancel,Rat.add_zero]
theorem Ech.grow (e:Ech n rs)(hw:w.length=n){p:Nat}(c:List Rat)(hp:p<n)(h0:(redV rs w).getD p 0≠0):Ech n (rs++[⟨redV rs w,c,p⟩]):=by
 refine ⟨fun r hr=>?_,List.pairwise_append.2 ⟨e.zero,List.pairwise_singleton ..,fun a ha b hb=>?_⟩⟩
 ·rcases mp9 hr with hr|hr
  ·exact e.piv r hr
  ·rw [ms9 hr];exact ⟨hp,h0⟩
 ·rw [ms9 hb]
  exact redV_piv e hw a ha
theorem nodup_bound:∀ (n:Nat) (l:List Nat),l.Nodup→(∀ x,x ∈ l→x<n)→l.length≤n
 | 0,l,_,h=>by
  cases l with
  | nil=>exact Nat.le_refl _
  | cons x r=>exact absurd (h x mc9) (Nat.not_lt_zero _)
 | n + 1, l, hn, h => by
  have h1:=nodup_bound n (l.erase n) (hn.erase n) fun x hx=>by
   have a:=h x (List.mem_of_mem_erase hx)
   have b:x≠n:=fun e=>by subst e;exact (List.Nodup.not_mem_erase hn) hx
   omega
  by_cases hm:n ∈ l
  ·rw [List.length_erase_of_mem hm] at h1;omega
  ·rw [List.erase_of_not_mem hm] at h1;omega
theorem Ech.len (e:Ech n rs):rs.length≤n:=by
 rw [← lm9 (f:=SRow.p)]
 refine nodup_bound n _ (List.pairwise_map.2 ?_) fun x hx=>?_
 ·refine e.zero.imp_of_mem fun {a b} _ hb h k=>?_
  rw [k] at h
  exact (e.piv b hb).2 h
 ·obtain ⟨r,hr,rfl⟩:=mm9 hx
  exact (e.piv r hr).1
end
def lsum {α:Type}(f:α→Rat):List α→Rat
 | []=>0
 | x::r=>f x+lsum f r
theorem lsum_append {α:Type}(f:α→Rat):∀ a b:List α,lsum f (a++b)=lsum f a+lsum f b
 | [],b=>by rw [List.nil_append,lsum,Rat.zero_add]
 | x::a,b=>by rw [List.cons_append,lsum,lsum,lsum_append f a b,Rat.add_assoc]
def pathsF (n:Nat):Nat→List (List Int)
 | 0=>[[]]
 | k+1=>(pathsF n k).flatMap fun p=>(List.range n).map fun (s:Nat)=>p++[(s:Int)]
def atP (p:List Int)(t:Nat):Nat:=(p.getD t 0).toNat
def wgt (h:HM)(w:List Int)(p:List Int):Nat→Rat
 | 0=>h.ini.getD (atP p 0) 0
 | t+1=>(if t=0 then wgt h w p t else wgt h w p t*trQ h (atP p (t-1)) (atP p t))*emQ h (atP p t) (symX w t)
def rowG (h:HM)(p:Nat→Bool)(g:Nat→Rat):List Rat:=(List.range h.st).map fun i=>if p i=true then g i else 0
def restG (h:HM)(w:List Int)(p:Nat→Nat→Bool):Nat→List Rat
 | 0=>rowG h (p (w.length-1)) fun i=>h.stop.getD i 0
 | d+1=>rowG h (p (w.length-1-(d+1))) fun i=>(aheadF h (i:Nat) (symX w (w.length-1-d)) (restG h w p d) h.st).1
def ahdG (h:HM)(w:List Int)(p:Nat→Nat→Bool)(fr:Int)(t:Nat):Rat × Nat:=aheadF h fr (symX w t) (restG h w p (w.length-1-t)) h.st
def toG (h:HM)(w:List Int)(p:Nat→Nat→Bool):Nat→Int
 | 0=>-1
 | t+1=>((ahdG h w p (toG h w p t) t).2:Nat)
def pathG (h:HM)(w:List Int)(p:Nat→Nat→Bool)(t:Nat):List Int:=(List.range t).map fun i=>toG h w p (i+1)
def bestG (h:HM)(w:List Int)(p:Nat→Nat→Bool):Rat:=(ahdG h w p (-1) 0).1
def every:Nat→Nat→Bool:=fun _ _=>true
structure AhdSpec (h:HM) (fr:Int) (x:Nat) (rest:List Rat) (n:Nat) (r:Rat × Nat):Prop where
 nonneg:0≤r.1
 le:∀ i,i<n→viaQ h fr x rest i≤r.1
 zero:r.1=0→r.2=0
 lt:0<r.1→r.2<n
 eq:0<r.1→viaQ h fr x rest r.2=r.1
 least:0<r.1→∀ i,i<r.2→viaQ h fr x rest i<r.1
def bestR (h:HM)(w:List Int)(p:Nat→Nat→Bool):Rat:=if w.length=0 then h.empty else bestG h w p
def vitP (h:HM)(w:List Int)(p:Nat→Nat→Bool):List Int:=if w.length=0 ∨ bestG h w p=0 then [] else pathG h w p w.length
def vitE (h:HM)(w:List Int)(p:Nat→Nat→Bool):Int:=if bestR h w p=0 then 11 else 0
def setF (sets:List Int)(t:Nat):Nat:=if t<sets.length then (within (sets.getD t 0) 8).toNat else 7
def bitS (x s:Nat):Bool:=decide (x / 2 ^ s % 2=1)
def rowA (x n:Nat):List Int:=((List.range n).filter fun s=>bitS x s).map fun s:Nat=>(s:Int)
def FitsA (h:HM)(w sets:List Int)(n:Nat):Prop:=vitE h w every=0∧∀ t,t<n→bitS (setF sets t) ((vitP h w every).getD t 0).toNat=true
instance (h:HM) (w sets:List Int) (n:Nat):Decidable (FitsA h w sets n):=inferInstanceAs (Decidable (_∧_))
def cmpL:List Int→List Int→Int
 | [],[]=>0
 | [],_::_=>-1
 | _::_,[]=>1
 | a::x,b::y=>if a<b then -1 else if b<a then 1 else cmpL x y
theorem cmpL_self:∀ x:List Int,cmpL x x=0
 | []=>rfl
 | a::x=>by rw [cmpL,if_neg (by omega),if_neg (by omega),cmpL_self x]
theorem cmpL_neg:∀ x y:List Int,cmpL y x = -cmpL x y
 | [],[]=>rfl
 | [],_::_=>rfl
 | _::_,[]=>rfl
 | a :: x, b :: y => by
  rw [cmpL,cmpL,cmpL_neg x y]
  by_cases h1:a<b
  ·rw [if_neg (by omega),if_pos h1,if_pos h1];rfl
  ·rw [if_neg h1]
   by_cases h2:b<a
   ·rw [if_pos h2,if_neg h1,if_pos h2]
   ·rw [if_neg h2,if_neg h2,if_neg h1]
theorem cmpL_zero:∀ {x y:List Int},cmpL x y=0→x=y
 | [],[],_=>rfl
 | [],_::_,h=>by rw [cmpL] at h;exact absurd h (by decide)
 | _::_,[],h=>by rw [cmpL] at h;exact absurd h (by decide)
 | a :: x, b :: y, h => by
  rw [cmpL] at h
  by_cases h1:a<b
  ·rw [if_pos h1] at h;exact absurd h (by decide)
  ·rw [if_neg h1] at h
   by_cases h2:b<a
   ·rw [if_pos h2] at h;exact absurd h (by decide)
   ·rw [if_neg h2] at h
    rw [cmpL_zero h,show a=b by omega]
theorem cmpL_trans:∀ {x y z:List Int},cmpL x y≤0→cmpL y z≤0→cmpL x z≤0
 | [],_,[],_,_=>by rw [cmpL];decide
 | [],_,_::_,_,_=>by rw [cmpL];decide
 | _::_,[],_,h,_=>by rw [cmpL] at h;exact absurd h (by decide)
 | _::_,_::_,[],_,h=>by rw [cmpL] at h;exact absurd h (by decide)
 | a :: x, b :: y, c :: z, h1, h2 => by
  rw [cmpL] at h1 h2 ⊢
  by_cases hab:a<b
  ·by_cases hcb:c<b
   ·rw [if_neg (by omega),if_pos hcb] at h2;exact absurd h2 (by decide)
   ·rw [if_pos (by omega)];decide
  ·rw [if_neg hab] at h1
   by_cases hba:b<a
   ·rw [if_pos hba] at h1;exact absurd h1 (by decide)
   ·rw [if_neg hba] at h1
    by_cases hbc:b<c
    ·rw [if_pos (by omega)];decide
    ·rw [if_neg hbc] at h2
     by_cases hcb:c<b
     ·rw [if_pos hcb] at h2;exact absurd h2 (by decide)
     ·rw [if_neg hcb] at h2
      rw [if_neg (by omega),if_neg (by omega)]
      exact cmpL_trans h1 h2
theorem cmpL_snoc {a b:Int}:∀ {x y:List Int},x.length=y.length→cmpL (x++[a]) (y++[b])=if cmpL x y=0 then (if a<b then -1 else if b<a then 1 else 0) else cmpL x y
 | [],[],_=>by rw [List.nil_append,List.nil_append,cmpL,cmpL,if_pos rfl,cmpL]
 | [],_::_,h=>by simp at h
 | _::_,[],h=>by simp at h
 | c :: x, d :: y, h => by
  rw [List.cons_append,List.cons_append,cmpL,cmpL,cmpL_snoc (by simpa using h)]
  by_cases h1:c<d
  ·rw [if_pos h1,if_pos h1,if_neg (by decide)]
  ·rw [if_neg h1,if_neg h1]
   by_cases h2:d<c
   ·rw [if_pos h2,if_pos h2,if_neg (by decide)]
   ·rw [if_neg h2,if_neg h2]
theorem cmpL_snoc_same {a:Int}{x y:List Int}(h:x.length=y.length):cmpL (x++[a]) (y++[a])=cmpL x y:=by
 rw [cmpL_snoc h]
 split
 ·rename_i e;rw [if_neg (by omega),if_neg (by omega),e]
 ·rfl
section
variable {h:HM}{bb B:Nat}{u:List Int}
def follow (h:HM)(u:List Int)(s i:Nat):Rat:=(restG h u every (u.length-1-s)).getD i 0
end
def lcpL:List Int→List Int→Nat
 | a::x,b::y=>if a=b then lcpL x y+1 else 0
 | _,_=>0
def comF (al:Nat→Bool)(ps:Nat→List Int):Nat→Int × List Int
 | 0=>(-1,[])
 | i + 1 => if al i = true then
   (if (comF al ps i).1<0 then (((min (ps i).length (lcpL (ps i) (ps i)):Nat):Int),ps i) else (((min (comF al ps i).1.toNat (lcpL (ps i) (comF al ps i).2):Nat):Int),(comF al ps i).2)) else comF al ps i
structure ComSpec (al:Nat→Bool) (ps:Nat→List Int) (n:Nat) (c:Int × List Int):Prop where
 none:(∀ i,i<n→al i=false)→c=(-1,[])
 some:(∃ i,i<n∧al i=true)→0≤c.1∧(∃ i,i<n∧al i=true∧c.2=ps i)∧(∀ i,i<n→al i=true→c.1.toNat≤(ps i).length∧(ps i).take c.1.toNat=c.2.take c.1.toNat) ∧
  ∀ m,(∀ i,i<n→al i=true→m≤(ps i).length∧(ps i).take m=c.2.take m)→m≤c.1.toNat
structure Dec where
 t:Nat
 sc:List Rat
 tl:List (List Int)
 dn:List Int
def betterP (x:Rat)(y:List Int)(m:Rat × List Int):Prop:=m.1<x ∨ (x=m.1∧0<x∧cmpL y m.2<0)
instance (x:Rat) (y:List Int) (m:Rat × List Int):Decidable (betterP x y m):=by unfold betterP;infer_instance
def comeQ (h:HM)(o:Dec)(j i:Nat):Rat:=o.sc.getD i 0*trQ h i j
section
variable {h:HM}{bb B:Nat}{u:List Int}{o:Dec}
structure Heads (h:HM) (u:List Int) (t:Nat) (S:Nat→Rat) (Q:Nat→List Int):Prop where
 nonneg:∀ j,j<h.st→0≤S j
 max:∀ p,p ∈ pathsF h.st t→wgt h u p t≤S (atP p (t-1))
 live:∀ j,j<h.st→0<S j→Q j ∈ pathsF h.st t∧atP (Q j) (t-1)=j∧wgt h u (Q j) t=S j∧∀ p,p ∈ pathsF h.st t→atP p (t-1)=j→wgt h u p t=S j→cmpL (Q j) p≤0
structure InvD (h:HM) (u:List Int) (o:Dec):Prop where
 le:o.t≤u.length
 zero:o.t=0→o.sc=[]∧o.tl=[]∧o.dn=[]
 len:o.t≠0→o.sc.length=h.st∧o.tl.length=h.st
 heads:o.t≠0→Heads h u o.t (fun j=>o.sc.getD j 0) fun j=>o.dn++o.tl.getD j []
 dead:∀ j,¬ 0<o.sc.getD j 0→o.tl.getD j []=[]
 some:o.t≠0→∃ j,j<h.st∧0<o.sc.getD j 0
 com:o.t≠0→(comF (fun j=>decide (0<o.sc.getD j 0)) (fun j=>o.tl.getD j []) h.st).1=0
 small:Small (1+2048*o.t) o.sc
structure PickSpec (h:HM) (o:Dec) (j n:Nat) (m:Rat × List Int):Prop where
 nonneg:0≤m.1
 le:∀ i,i<n→comeQ h o j i≤m.1
 pos:0<m.1→∃ i,i<n∧m=(comeQ h o j i,o.tl.getD i [])
 least:0<m.1→∀ i,i<n→comeQ h o j i=m.1→cmpL m.2 (o.tl.getD i [])≤0
end
def endQ (h:HM)(o:Dec)(i:Nat):Rat:=o.sc.getD i 0*h.stop.getD i 0
structure FinSpec (h:HM) (o:Dec) (n:Nat) (m:Rat × List Int):Prop where
 nonneg:0≤m.1
 le:∀ i,i<n→endQ h o i≤m.1
 pos:0<m.1→∃ i,i<n∧m=(endQ h o i,o.tl.getD i [])
 least:0<m.1→∀ i,i<n→endQ h o i=m.1→cmpL m.2 (o.tl.getD i [])≤0
section
variable {h:HM}{bb B:Nat}{u:List Int}{o:Dec}
structure TimesOK (ts:List Int) (n:Nat):Prop where
 ge:∀ s,s<ts.length→(s:Int)+1≤ts.getD s 0
 le:∀ s,s<ts.length→ts.getD s 0≤n
 mono:∀ s,s+1<ts.length→ts.getD s 0≤ts.getD (s+1) 0
end
end Go.AL

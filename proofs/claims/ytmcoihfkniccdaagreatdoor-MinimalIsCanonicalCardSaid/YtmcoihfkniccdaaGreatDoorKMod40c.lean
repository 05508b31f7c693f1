/-
  M, chapter 40, part 3: a drawing reckoned.
-/
import Derived.Test.YtmcoihfkniccdaaGreatDoorKRefC
import Derived.Test.YtmcoihfkniccdaaGreatDoorKAlg25
import Derived.KernelRfl
set_option linter.unusedVariables false
set_option linter.unusedSimpArgs false
namespace Go.Proofs.YtmcoihfkniccdaaGreatDoor
open Go Go.AL
theorem rational_AddQ {x y:Rat}(hx:sz x≤68719476736)(hy:sz y≤68719476736):FSpec P F.rational_Add [vQ x,vQ y] (vQ (x+y)):=by
 have h:=rational_Add (x:=ofQ x) (y:=ofQ y) (ofQ_ok (by omega)) (ofQ_ok (by omega))
 rw [q_ofQ,q_ofQ] at h;exact h
theorem rational_MulQ {x y:Rat}(hx:sz x≤68719476736)(hy:sz y≤68719476736):FSpec P F.rational_Mul [vQ x,vQ y] (vQ (x*y)):=by
 have h:=rational_Mul (x:=ofQ x) (y:=ofQ y) (ofQ_ok (by omega)) (ofQ_ok (by omega))
 rw [q_ofQ,q_ofQ] at h;exact h
theorem rational_SignQ {x:Rat}(hx:sz x≤68719476736):FSpec P F.rational_Sign [vQ x] (.d (dI (sgnQ x))):=by
 have h:=rational_Sign (x:=ofQ x) (ofQ_ok (by omega))
 rw [q_ofQ] at h;exact h
theorem rational_ValidQ {x:Rat}(hx:sz x≤274877906944):FSpec P F.rational_Valid [vQ x] (.d (dB true)):=by
 have h:=rational_Valid (r:=ofQ x) (ofQ_ok hx)
 rw [ofQ_good] at h;exact h
theorem rational_MakeQ {n d:Int}(hn:-9223372036854775808≤n∧n≤9223372036854775807)(hd:-9223372036854775808≤d∧d≤9223372036854775807)(h0:d≠0) :
  FSpec P F.rational_Make [.d (dI n),.d (dI d)] (.tup [vQ ((n:Rat) / (d:Rat)),.d (dI 0)]):=rational_Make hn hd h0
theorem q11:((1:Int):Rat) / ((1:Int):Rat)=1:=by show (1:Rat) / 1=1;grind
theorem z0K:sz 0≤68719476736:=by rw [sz_zero];decide
end Go.Proofs.YtmcoihfkniccdaaGreatDoor
namespace Go.AL
open Go Go.BigFrame
def stepQ (h:HM)(fr:Int)(i:Nat):Rat:=if 0≤fr then (h.trans.getD fr.toNat []).getD i 0 else h.ini.getD i 0
def viaQ (h:HM)(fr:Int)(x:Nat)(rest:List Rat)(i:Nat):Rat:=stepQ h fr i*(h.emit.getD i []).getD x 0*rest.getD i 0
def aheadF (h:HM)(fr:Int)(x:Nat)(rest:List Rat):Nat→Rat × Nat
 | 0=>(0,0)
 | i+1=>if (aheadF h fr x rest i).1<viaQ h fr x rest i then (viaQ h fr x rest i,i) else aheadF h fr x rest i
def symX (w:List Int)(t:Nat):Nat:=(w.getD t 0).toNat-1
def WordOK (h:HM)(w:List Int):Prop:=w.length≤256∧∀ x,x ∈ w→1≤x∧x≤h.sym
theorem WordOK.get {h:HM}{w:List Int}(k:WordOK h w){t:Nat}(ht:t<w.length):1≤w.getD t 0∧w.getD t 0≤h.sym:=k.2 _ (getD_mem ht 0)
theorem WordOK.symX {h:HM}{w:List Int}(k:WordOK h w){t:Nat}(ht:t<w.length):Go.AL.symX w t<h.sym∧w.getD t 0=((Go.AL.symX w t+1:Nat):Int):=by
 have:=k.get ht
 unfold Go.AL.symX
 omega
theorem map_getD_range {α:Type}{n k:Nat}(f:Nat→α)(d:α)(hk:k<n):((List.range n).map f).getD k d=f k:=by
 rw [gd9,List.getElem?_map,List.getElem?_range hk];rfl
def fillF {α:Type}(d:α)(g:Nat→α)(n i:Nat):List α:=(List.range n).map fun j=>if j<i then g j else d
theorem fillF_len {α:Type}(d:α)(g:Nat→α)(n i:Nat):(fillF d g n i).length=n:=by simp [fillF]
theorem fillF_zero {α:Type}(d:α)(g:Nat→α)(n:Nat):fillF d g n 0=List.replicate n d:=by
 refine List.ext_getElem (by simp [fillF]) fun k h1 h2=>?_
 simp [fillF]
theorem fillF_set {α:Type}{d:α}{g:Nat→α}{n i:Nat}(hi:i<n):(fillF d g n i).set i (g i)=fillF d g n (i+1):=by
 refine List.ext_getElem (by simp [fillF]) fun k h1 h2=>?_
 rw [List.getElem_set]
 simp only [fillF,List.getElem_map,List.getElem_range]
 by_cases he:i=k
 ·subst he;rw [if_pos rfl,if_pos (by omega)]
 ·rw [if_neg he]
  by_cases h3:k<i
  ·rw [if_pos h3,if_pos (by omega)]
  ·rw [if_neg h3,if_neg (by omega)]
theorem fillF_all {α:Type}(d:α)(g:Nat→α)(n:Nat):fillF d g n n=(List.range n).map g:=by
 refine List.map_congr_left fun j hj=>?_
 rw [if_pos (List.mem_range.1 hj)]
def sumN (f:Nat→Rat):Nat→Rat
 | 0=>0
 | n+1=>sumN f n+f n
def trQ (h:HM)(i j:Nat):Rat:=(h.trans.getD i []).getD j 0
def emQ (h:HM)(i x:Nat):Rat:=(h.emit.getD i []).getD x 0
def preF (h:HM)(w:List Int)(prev:List Rat)(t j:Nat):Nat→Rat:=sumN fun i=>prev.getD i 0*trQ h i j
def fwdF (h:HM)(w:List Int):Nat→List Rat
 | 0=>(List.range h.st).map fun j=>h.ini.getD j 0*emQ h j (symX w 0)
 | t+1=>(List.range h.st).map fun j=>preF h w (fwdF h w t) t j h.st*emQ h j (symX w (t+1))
def sufF (h:HM)(w:List Int)(next:List Rat)(t i:Nat):Nat→Rat:=sumN fun j=>trQ h i j*(emQ h j (symX w (t+1))*next.getD j 0)
def bwdF (h:HM)(w:List Int):Nat→List Rat
 | 0=>(List.range h.st).map fun i=>h.stop.getD i 0
 | d+1=>(List.range h.st).map fun i=>sufF h w (bwdF h w d) (w.length-1-(d+1)) i h.st
def likN (h:HM)(row:List Rat):Nat→Rat:=sumN fun i=>row.getD i 0*h.stop.getD i 0
def likF (h:HM)(w:List Int):Rat:=if w.length=0 then h.empty else likN h (fwdF h w (w.length-1)) h.st
def postQ (h:HM)(w:List Int)(t i:Nat):Rat:=(fwdF h w t).getD i 0*(bwdF h w (w.length-1-t)).getD i 0 / likF h w
def postF (h:HM)(w:List Int)(t:Nat):List Rat:=(List.range h.st).map fun i=>postQ h w t i
theorem sz_div (x y:Rat):sz (x / y)≤sz x+sz y:=by
 by_cases h0:y=0
 ·rw [h0,Rat.div_def,Rat.inv_zero,Rat.mul_zero,sz_zero]
  have:=sz_zero
  omega
 ·have hy:y.num.natAbs≠0:=by
   intro e
   have:y.num=0:=by omega
   exact h0 (Rat.num_eq_zero.1 this)
  have hx:=fr_ofQ x
  have hyq:=fr_ofQ y
  have hd:=fr_div (s:=decide (x.num<0)) (t:=decide (y.num<0)) (a:=x.num.natAbs) (b:=y.num.natAbs) (d1:=x.den) (d2:=y.den) x.den_nz y.den_nz hy
  rw [hx,hyq] at hd
  rw [hd]
  have l1:=len_mul x.num.natAbs y.den
  have l2:=len_mul x.den y.num.natAbs
  have a1:=sz_num x
  have a2:=sz_den x
  have a3:=sz_num y
  have a4:=sz_den y
  exact sz_fr (Nat.mul_ne_zero x.den_nz hy) (by omega) (by omega)
structure Few (h:HM) (w:List Int):Prop where
 st:h.st≤4
 len:w.length≤6
structure FwdSz (h:HM) (w:List Int):Prop where
 empty:sz h.empty≤68719476736
 ini:∀ i,sz (h.ini.getD i 0)≤68719476736
 em:∀ i x,sz (emQ h i x)≤68719476736
 tr:∀ i j,sz (trQ h i j)≤68719476736
 stop:∀ i,sz (h.stop.getD i 0)≤68719476736
 fwd:∀ t,t<w.length→∀ i,sz ((fwdF h w t).getD i 0)≤68719476736
 pre:∀ t j n,t<w.length→n≤h.st→sz (preF h w (fwdF h w t) t j n)≤68719476736
 preM:∀ t i j,t<w.length→sz ((fwdF h w t).getD i 0*trQ h i j)≤68719476736
 lik:∀ t n,t<w.length→n≤h.st→sz (likN h (fwdF h w t) n)≤68719476736
 likM:∀ t i,t<w.length→sz ((fwdF h w t).getD i 0*h.stop.getD i 0)≤68719476736
theorem fill_row {l:List Rat}{n:Nat}(h:l.length=n):fillF 0 (fun j=>l.getD j 0) n n=l:=by
 rw [fillF_all]
 refine list_eq_getD (by rw [h];simp) 0 fun i hi=>?_
 rw [lm9,List.length_range] at hi
 exact map_getD_range _ _ hi
theorem fwd_pos {h:HM}{w:List Int}{t j:Nat}(ht:0<t)(hj:j<h.st):(fwdF h w t).getD j 0=preF h w (fwdF h w (t-1)) (t-1) j h.st*emQ h j (symX w t):=by
 obtain ⟨u,rfl⟩:∃ u,t=u+1:=⟨t-1,by omega⟩
 exact map_getD_range _ _ hj
theorem bwd_zero {h:HM}{w:List Int}{i:Nat}(hi:i<h.st):(bwdF h w 0).getD i 0=h.stop.getD i 0:=map_getD_range _ _ hi
theorem bwd_pos {h:HM}{w:List Int}{d a i:Nat}(hd:0<d)(ha:a=w.length-1-d)(hi:i<h.st):(bwdF h w d).getD i 0=sufF h w (bwdF h w (d-1)) a i h.st:=by
 obtain ⟨u,rfl⟩:∃ u,d=u+1:=⟨d-1,by omega⟩
 subst ha
 exact map_getD_range _ _ hi
def postR (h:HM)(w:List Int):List (List Rat):=if likF h w=0 then [] else (List.range w.length).map (postF h w)
inductive SpanV (n:Nat) (B:List (List Rat)):(Nat→Rat)→Prop
 | zero {u:Nat→Rat} (h:∀ i,i<n→u i=0):SpanV n B u
 | add {u u':Nat→Rat} {b:List Rat} (c:Rat) (hb:b ∈ B) (hu:SpanV n B u) (h:∀ i,i<n→u' i=u i+c*b.getD i 0):SpanV n B u'
abbrev vf (l:List Rat):Nat→Rat:=fun i=>l.getD i 0
section
variable {n:Nat}{B C:List (List Rat)}{u v:Nat→Rat}
theorem SpanV.congr (h:SpanV n B u)(e:∀ i,i<n→v i=u i):SpanV n B v:=by
 cases h with
 | zero h=>exact .zero fun i hi=>(e i hi).trans (h i hi)
 | add c hb hu h=>exact .add c hb hu fun i hi=>(e i hi).trans (h i hi)
theorem SpanV.mem {b:List Rat}(hb:b ∈ B):SpanV n B (vf b):=.add 1 hb (.zero (u:=fun _=>0) fun _ _=>rfl) fun i _=>by rw [Rat.one_mul,Rat.zero_add]
theorem SpanV.mono (h:SpanV n B u)(hs:∀ b,b ∈ B→b ∈ C):SpanV n C u:=by
 induction h with
 | zero h=>exact .zero h
 | add c hb _ h ih=>exact .add c (hs _ hb) ih h
theorem SpanV.plus (h:SpanV n B u)(k:SpanV n B v):SpanV n B fun i=>u i+v i:=by
 induction k with
 | zero k=>exact h.congr fun i hi=>by rw [k i hi,Rat.add_zero]
 | add c hb _ k ih=>exact .add c hb ih fun i hi=>by rw [k i hi,Rat.add_assoc]
theorem SpanV.smul (h:SpanV n B u)(a:Rat):SpanV n B fun i=>a*u i:=by
 induction h with
 | zero h=>exact .zero fun i hi=>by rw [h i hi,Rat.mul_zero]
 | add c hb _ h ih=>exact .add (a*c) hb ih fun i hi=>by rw [h i hi,Rat.mul_add,Rat.mul_assoc]
theorem SpanV.trans (h:SpanV n B u)(k:∀ b,b ∈ B→SpanV n C (vf b)):SpanV n C u:=by
 induction h with
 | zero h=>exact .zero h
 | add c hb _ h ih=>exact (ih.plus ((k _ hb).smul c)).congr fun i hi=>h i hi
structure LinM (n m:Nat) (L:(Nat→Rat)→Nat→Rat):Prop where
 loc:∀ u v,(∀ i,i<n→u i=v i)→∀ j,j<m→L u j=L v j
 add:∀ u v c j,j<m→L (fun i=>u i+c*v i) j=L u j+c*L v j
 zero:∀ j,j<m→L (fun _=>0) j=0
theorem SpanV.map {m:Nat}{L:(Nat→Rat)→Nat→Rat}(hL:LinM n m L)(h:SpanV n B u)(k:∀ b,b ∈ B→SpanV m C (L (vf b))):SpanV m C (L u):=by
 induction h with
 | @zero u h=>exact .zero fun j hj=>(hL.loc u (fun _=>0) h j hj).trans (hL.zero j hj)
 | @add u u' b c hb _ h ih =>
  refine (ih.plus ((k _ hb).smul c)).congr fun j hj=>?_
  rw [hL.loc u' (fun i=>u i+c*vf b i) h j hj,hL.add u (vf b) c j hj]
theorem SpanV.kill {L:(Nat→Rat)→Nat→Rat}(hL:LinM n 1 L)(h:SpanV n B u)(k:∀ b,b ∈ B→L (vf b) 0=0):L u 0=0:=by
 induction h with
 | @zero u h=>exact (hL.loc u (fun _=>0) h 0 (by decide)).trans (hL.zero 0 (by decide))
 | @add u u' b c hb _ h ih=>rw [hL.loc u' (fun i=>u i+c*vf b i) h 0 (by decide),hL.add u (vf b) c 0 (by decide),ih,k _ hb,Rat.mul_zero,Rat.add_zero]
theorem SpanV.split {r:List Rat}(h:SpanV n (r::B) u):∃ (c:Rat) (w:Nat→Rat),SpanV n B w∧∀ i,i<n→u i=c*r.getD i 0+w i:=by
 induction h with
 | zero h=>exact ⟨0,fun _=>0,.zero fun _ _=>rfl,fun i hi=>by rw [h i hi,Rat.zero_mul,Rat.add_zero]⟩
 | @add u u' b a hb _ h ih =>
  obtain ⟨c,w,h1,h2⟩:=ih
  rcases List.mem_cons.1 hb with rfl|hb
  ·exact ⟨c+a,w,h1,fun i hi=>by rw [h i hi,h2 i hi,Rat.add_mul,Rat.add_assoc,Rat.add_assoc,Rat.add_comm (w i)]⟩
  ·exact ⟨c,fun i=>w i+a*b.getD i 0,.add a hb h1 fun i _=>rfl,fun i hi=>by rw [h i hi,h2 i hi,Rat.add_assoc]⟩
end
structure SRow where
 v:List Rat
 c:List Rat
 p:Nat
instance:Inhabited SRow:=⟨⟨[],[],0⟩⟩
def qotR (w:List Rat)(r:SRow):Rat:=w.getD r.p 0 / r.v.getD r.p 0
def redStep (w:List Rat)(r:SRow):List Rat:=(List.range w.length).map fun i=>w.getD i 0-qotR w r*r.v.getD i 0
def redV:List SRow→List Rat→List Rat
 | [],w=>w
 | r::rs,w=>redV rs (redStep w r)
def rowsS (rs:List SRow):List (List Rat):=rs.map (·.v)
structure Ech (n:Nat) (rs:List SRow):Prop where
 piv:∀ r,r ∈ rs→r.p<n∧r.v.getD r.p 0≠0
 zero:rs.Pairwise fun a b=>b.v.getD a.p 0=0
section
variable {n:Nat}{rs:List SRow}{r:SRow}{w:List Rat}
theorem redStep_len:(redStep w r).length=w.length:=by simp [redStep]
theorem redV_len:∀ (rs:List SRow) (w:List Rat),(redV rs w).length=w.length
 | [],_=>rfl
 | r::rs,w=>by rw [redV,redV_len rs,redStep_len]
theorem redStep_get {i:Nat}(hi:i<w.length):(redStep w r).getD i 0=w.getD i 0-qotR w r*r.v.getD i 0:=map_getD_range _ _ hi
theorem redStep_zero (h0:qotR w r=0):redStep w r=w:=by
 refine list_eq_getD redStep_len 0 fun i hi=>?_
 rw [redStep_len] at hi
 rw [redStep_get hi,h0,Rat.zero_mul,Rat.sub_eq_add_neg,Rat.neg_zero,Rat.add_zero]
theorem redStep_piv (hp:r.p<w.length)(h0:r.v.getD r.p 0≠0):(redStep w r).getD r.p 0=0:=by
 rw [redStep_get hp,qotR,Rat.div_mul_cancel h0,Rat.sub_self]
theorem redV_span:∀ (rs:List SRow) (w:List Rat),SpanV w.length (rowsS rs) fun i=>w.getD i 0-(redV rs w).getD i 0
 | [],w=>.zero fun i _=>by rw [redV,Rat.sub_self]
 | r::rs,w=>by
  have ih:=redV_span rs (redStep w r)
  rw [redStep_len] at ih
  refine .add (b:=r.v) (qotR w r) mc9 (ih.mono fun b hb=>List.mem_cons_of_mem _ hb) fun i hi=>?_
  rw [redStep_get hi,redV]
  rw [Rat.sub_eq_add_neg,Rat.sub_eq_add_neg,Rat.sub_eq_add_neg,Rat.add_assoc,Rat.add_assoc,Rat.add_comm (-(qotR w r*_)),Rat.add_assoc,Rat.add_neg_cancel,Rat.add_zero]
theorem redV_keep:∀ {rs:List SRow} {w:List Rat} {p:Nat},p<w.length→w.getD p 0=0→(∀ r,r ∈ rs→r.v.getD p 0=0)→(redV rs w).getD p 0=0
 | [],_,_,_,h,_=>h
 | r::rs,w,p,hp,h,hz=>by
  rw [redV]
  refine redV_keep (by rw [redStep_len];exact hp) ?_ fun q hq=>hz q (List.mem_cons_of_mem _ hq)
  rw [redStep_get hp,h,hz r mc9,Rat.mul_zero,Rat.sub_self]
theorem Ech.tail (e:Ech n (r::rs)):Ech n rs:=⟨fun q hq=>e.piv q (List.mem_cons_of_mem _ hq),(List.pairwise_cons.1 e.zero).2⟩
theorem redV_piv:∀ {rs:List SRow} {w:List Rat},Ech n rs→w.length=n→∀ r,r ∈ rs→(redV rs w).getD r.p 0=0
 | r :: rs, w, e, hw, q, hq => by
  rw [redV]
  rcases List.mem_cons.1 hq with rfl|hq
  ·obtain ⟨p1,p2⟩:=e.piv q mc9
   exact redV_keep (by rw [redStep_len,hw];exact p1) (redStep_piv (by rw [hw];exact p1) p2) (List.pairwise_cons.1 e.zero).1
  ·exact redV_piv e.tail (by rw [redStep_len];exact hw) q hq
theorem Ech.indep:∀ {rs:List SRow} {u:Nat→Rat},Ech n rs→SpanV n (rowsS rs) u→(∀ r,r ∈ rs→u r.p=0)→∀ i,i<n→u i=0
 | [],u,_,h,_,i,hi=>by
  cases h with
  | zero h=>exact h i hi
  | add _ hb=>cases hb
 | r :: rs, u, e, h, hz, i, hi => by
  obtain ⟨c,w,h1,h2⟩:=h.split
  obtain ⟨p1,p2⟩:=e.piv r mc9
  have hw0:∀ {w:Nat→Rat},SpanV n (rowsS rs) w→w r.p=0:=fun {w} h=>by
   induction h with
   | zero h=>exact h _ p1
   | add c hb _ h ih =>
    obtain ⟨q,hq,rfl⟩:=mm9 hb
    rw [h _ p1,ih,(List.pairwise_cons.1 e.zero).1 q hq,Rat.mul_zero,Rat.add_zero]
  have hc:c=0:=by
   have:=h2 _ p1
   rw [hz r mc9,hw0 h1,Rat.add_zero] at this
   rcases Rat.mul_eq_zero.1 this.symm with h|h
   ·exact h
   ·exact absurd h p2
  have h3:∀ j,j<n→u j=w j:=fun j hj=>by rw [h2 j hj,hc,Rat.zero_mul,Rat.zero_add]
  rw [h3 i hi]
  exact Ech.indep e.tail h1 (fun q hq=>by rw [← h3 _ (e.piv q (List.mem_cons_of_mem _ hq)).1];exact hz q (List.mem_cons_of_mem _ hq)) i hi
def allZ (w:List Rat):Prop:=∀ i,i<w.length→w.getD i 0=0
theorem red_iff (e:Ech n rs)(hw:w.length=n):allZ (redV rs w) ↔ SpanV n (rowsS rs) (vf w):=by
 have hs:=redV_span rs w
 rw [hw] at hs
 constructor
 ·intro h
  refine hs.congr fun i hi=>?_
  rw [h i (by rw [redV_len,hw];exact hi),Rat.sub_eq_add_neg,Rat.neg_zero,Rat.add_zero]
 ·intro h i hi
  rw [redV_len,hw] at hi
  refine Ech.indep e (u:=vf (redV rs w)) ?_ (redV_piv e hw) i hi
  refine (h.plus (hs.smul (-1))).congr fun j hj=>?_
  show (redV rs w).getD j 0=w.getD j 0 + -1*(w.getD j 0-(redV rs w).getD j 0)
  rw [Rat.neg_mul,Rat.one_mul,Rat.neg_sub,Rat.sub_eq_add_neg,Rat.add_comm (w.getD j 0),Rat.add_assoc,Rat.neg_add_cancel,Rat.add_zero]
theorem Ech.grow (e:Ech n rs)(hw:w.length=n){p:Nat}(c:List Rat)(hp:p<n)(h0:(redV rs w).getD p 0≠0):Ech n (rs++[⟨redV rs w,c,p⟩]):=by
 refine ⟨fun r hr=>?_,List.pairwise_append.2 ⟨e.zero,List.pairwise_singleton ..,fun a ha b hb=>?_⟩⟩
 ·rcases mp9 hr with hr|hr
  ·exact e.piv r hr
  ·rw [ms9 hr];exact ⟨hp,h0⟩
 ·rw [ms9 hb]
  exact redV_piv e hw a ha
theorem nodup_bound:∀ (n:Nat) (l:List Nat),l.Nodup→(∀ x,x ∈ l→x<n)→l.length≤n
 | 0,l,_,h=>by
  cases l with
  | nil=>exact Nat.le_refl _
  | cons x r=>exact absurd (h x mc9) (Nat.not_lt_zero _)
 | n + 1, l, hn, h => by
  have h1:=nodup_bound n (l.erase n) (hn.erase n) fun x hx=>by
   have a:=h x (List.mem_of_mem_erase hx)
   have b:x≠n:=fun e=>by subst e;exact (List.Nodup.not_mem_erase hn) hx
   omega
  by_cases hm:n ∈ l
  ·rw [List.length_erase_of_mem hm] at h1;omega
  ·rw [List.erase_of_not_mem hm] at h1;omega
theorem Ech.len (e:Ech n rs):rs.length≤n:=by
 rw [← lm9 (f:=SRow.p)]
 refine nodup_bound n _ (List.pairwise_map.2 ?_) fun x hx=>?_
 ·refine e.zero.imp_of_mem fun {a b} _ hb h k=>?_
  rw [k] at h
  exact (e.piv b hb).2 h
 ·obtain ⟨r,hr,rfl⟩:=mm9 hx
  exact (e.piv r hr).1
end
def xiQ (h:HM)(w:List Int)(t i j:Nat):Rat:=(fwdF h w t).getD i 0*trQ h i j*(emQ h j (symX w (t+1))*(bwdF h w (w.length-1-(t+1))).getD j 0) / likF h w
def showQ (h:HM)(w:List Int)(n i x:Nat):Rat:=sumN (fun t=>if symX w t=x then postQ h w t i else 0) n
def moveQ (h:HM)(w:List Int)(n i j:Nat):Rat:=sumN (fun t=>xiQ h w t i j) n
def showRow (h:HM)(w:List Int)(n i:Nat):List Rat:=(List.range h.sym).map fun x=>showQ h w n i x
def moveRow (h:HM)(w:List Int)(n i:Nat):List Rat:=(List.range h.st).map fun j=>moveQ h w n i j
theorem sumN_szL {C:Nat}{f:Nat→Rat}:∀ n,(∀ i,i<n→sz (f i)≤C)→sz (sumN f n)≤1+n*(C+1)
 | 0,_=>by show sz 0≤_;rw [sz_zero];omega
 | n+1,hf=>by
  rw [sumN,Nat.add_mul]
  have h1:=sumN_szL n fun i hi=>hf i (by omega)
  have h2:=sz_add (sumN f n) (f n)
  have h3:=hf n (by omega)
  omega
def exS (h:HM)(w:List Int):List Rat:=if likF h w=0 then [] else if w.length=0 then List.replicate h.st 0 else postF h w 0
def exE (h:HM)(w:List Int):List Rat:=if likF h w=0 then [] else if w.length=0 then List.replicate h.st 0 else postF h w (w.length-1)
def exM (h:HM)(w:List Int):List (List Rat):=if likF h w=0 then [] else (List.range h.st).map fun i=>moveRow h w (w.length-1) i
def exO (h:HM)(w:List Int):List (List Rat):=if likF h w=0 then [] else (List.range h.st).map fun i=>showRow h w w.length i
structure Span where
 lo:Rat
 len:Rat
def Span.part (s:Span)(ch:List Rat)(k:Nat):Span:=⟨(ch.take k).foldl (fun a p=>a+s.len*p) s.lo,s.len*ch.getD k 0⟩
def Span.inside (s t:Span):Prop:=t.lo≤s.lo∧s.lo+s.len≤t.lo+t.len
instance (s t:Span):Decidable (s.inside t):=inferInstanceAs (Decidable (_∧_))
def Span.one:Span:=⟨0,1⟩
def Sure (read s:Span)(ch:List Rat)(k:Nat):Prop:=0<ch.getD k 0∧read.inside (s.part ch k)
instance (read s:Span) (ch:List Rat) (k:Nat):Decidable (Sure read s ch k):=inferInstanceAs (Decidable (_∧_))
structure Rd where
 used:Nat
 read:Span
def Rd.step (bits:List Int)(r:Rd):Rd:=⟨r.used+1,⟨if bits.getD r.used 0=1 then r.read.lo+r.read.len*(1 / 2) else r.read.lo,r.read.len*(1 / 2)⟩⟩
def HM.next (h:HM):Option Nat→List Rat
 | none=>h.ini++[h.empty]
 | some i=>h.trans.getD i []++[h.stop.getD i 0]
inductive Drawing where
 | err (e:Int)
 | run (states word:List Int) (used:Nat)
def partLo (s:Span)(l:List Rat):Rat:=l.foldl (fun a p=>a+s.len*p) s.lo
theorem foldl_sz {B c:Nat}{q:Rat}(hq:sz q≤c):∀ (l:List Rat) (a:Rat),Small B l→sz (l.foldl (fun a p=>a+q*p) a)≤sz a+l.length*(c+B+1)
 | [],a,_=>by simp
 | x::l,a,h=>by
  rw [List.foldl_cons,List.length_cons,Nat.add_mul]
  have h1:=foldl_sz hq l (a+q*x) fun y hy=>h y (List.mem_cons_of_mem _ hy)
  have h2:=sz_add a (q*x)
  have h3:=sz_mul q x
  have h4:=h x mc9
  omega
theorem partLo_sz {B c:Nat}{s:Span}{l:List Rat}(hq:sz s.len≤c)(h:Small B l):sz (partLo s l)≤sz s.lo+l.length*(c+B+1):=foldl_sz hq l s.lo h
structure SpanOK (t:Nat) (s:Span):Prop where
 lo:sz s.lo≤1+t*40000000
 len:sz s.len≤1+t*1024
theorem SpanOK.part {t:Nat}{s:Span}{l:List Rat}(h:SpanOK t s)(ht:t≤600)(hl:Small 1024 l)(hn:l.length≤40)(k:Nat)(hk:k<l.length):SpanOK (t+1) (s.part l k):=by
 have h1:=partLo_sz (B:=1024) (s:=s) (l:=l.take k) h.len (hl.take k)
 have h2:(l.take k).length≤40:=by rw [List.length_take];omega
 have h3:=sz_mul s.len (l.getD k 0)
 have h4:=hl.get (by decide) k
 have h5:=h.lo
 have h6:=h.len
 have h7:(l.take k).length*(1+t*1024+1024+1)≤40*(1+600*1024+1024+1):=Nat.mul_le_mul h2 (by omega)
 refine ⟨?_,?_⟩
 ·show sz (partLo s (l.take k))≤_
  omega
 ·show sz (s.len*l.getD k 0)≤_
  omega
structure RdOK (bits:List Int) (r:Rd):Prop where
 used:r.used≤bits.length
 bits:bits.length≤2000
 lo:sz r.read.lo≤1+3000*r.used
 len:sz r.read.len≤1+r.used
theorem half_eq:((1:Int):Rat) / ((2:Int):Rat)=1 / 2:=by rw [show ((1:Int):Rat)=1 from rfl,show ((2:Int):Rat)=2 from rfl]
theorem half_sz:sz (1 / 2)≤1:=by rw [← half_eq];exact div_sz (by decide) (by decide) (by decide)
theorem RdOK.step {bits:List Int}{r:Rd}(h:RdOK bits r)(hu:r.used<bits.length):RdOK bits (r.step bits):=by
 have h1:=h.lo
 have h2:=h.len
 have h3:=h.bits
 have h4:=sz_mul r.read.len (1 / 2)
 have h5:=half_sz
 have h6:=sz_add r.read.lo (r.read.len*(1 / 2))
 generalize sz (1 / 2)=a5 at h4 h5
 refine ⟨hu,h3,?_,?_⟩
 ·rw [show (r.step bits).used=r.used+1 from rfl,show (r.step bits).read.lo=(if bits.getD r.used 0=1 then r.read.lo+r.read.len*(1 / 2) else r.read.lo) from rfl]
  generalize r.read.lo+r.read.len*(1 / 2)=x6 at h6 ⊢
  generalize r.read.len*(1 / 2)=x4 at h4 h6
  split <;> omega
 ·rw [show (r.step bits).used=r.used+1 from rfl,show (r.step bits).read.len=r.read.len*(1 / 2) from rfl]
  omega
def lexI:List Int→List Int→Int
 | x::xs,y::ys=>if x<y then -1 else if y<x then 1 else lexI xs ys
 | _,_=>0
def cmpI (a b:List Int):Int:=if a.length≠b.length then (if a.length<b.length then -1 else 1) else lexI a b
deriving instance DecidableEq for Drawing
end Go.AL

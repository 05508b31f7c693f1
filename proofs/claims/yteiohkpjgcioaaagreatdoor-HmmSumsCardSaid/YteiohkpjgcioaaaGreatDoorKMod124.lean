/-
  M, chapter 33: models out of plain numbers some of whose states are silent.
-/
import Derived.Test.YteiohkpjgcioaaaGreatDoorKMod123
import Derived.Test.YteiohkpjgcioaaaGreatDoorKNumb
set_option linter.unusedVariables false
set_option linter.unusedSimpArgs false
namespace Go.AL
open Go Go.BigFrame
def endS (l:List Rat)(st:Nat):Nat→Rat
 | 0=>l.getD st 0
 | j+1=>endS l st j+l.getD j 0
def cutS (l:List Rat)(st j:Nat):List Rat:=(List.range (st+1)).map fun q=>if q=st then endS l st j else if q<j then 0 else l.getD q 0
def tieX (L:List Int)(emits:List (List Rat))(sil:List Bool)(ties:List Int)(e:List Rat)(s:Bool)(i:Nat):Nat→Nat→Nat→Int→Int × Nat
 | 0,_,a,t=>(t,a)
 | f+1,j,a,t=>if tnext L a 3=0 then tieX L emits sil ties e s i f (j+1) (tat L a) (if s=false∧sil.getD j false=false∧emits.getD j []=e then ties.getD j 0 else t) else (t,tat L a)
structure MX where
 trans:List (List Rat)
 stop:List Rat
 sil:List Bool
 emit:List (List Rat)
 ties:List Int
 a:Nat
def mxS (L:List Int)(m:MX):Bool:=decide (tnext L m.a 3=0)
def mxL0 (L:List Int)(st:Nat)(m:MX):List Rat:=shares L (st+1) (tat L m.a)
def mxL (L:List Int)(st i:Nat)(m:MX):List Rat:=if mxS L m=true then cutS (mxL0 L st m) st (i+1) else mxL0 L st m
def mxA1 (L:List Int)(st:Nat)(m:MX):Nat:=shA L (st+1) (tat L m.a)
def mxE (L:List Int)(st sym:Nat)(m:MX):List Rat:=if mxS L m=true then [] else shares L sym (mxA1 L st m)
def mxA2 (L:List Int)(st sym:Nat)(m:MX):Nat:=if mxS L m=true then mxA1 L st m else shA L sym (mxA1 L st m)
def mxT (L:List Int)(st sym i:Nat)(m:MX):Int × Nat:=tieX L (m.emit++[mxE L st sym m]) (m.sil++[mxS L m]) m.ties (mxE L st sym m) (mxS L m) i i 0 (mxA2 L st sym m) i
def mxF (L:List Int)(st sym:Nat):Nat→Nat→MX
 | 0,a=>⟨[],[],[],[],[],a⟩
 | i + 1, a => ⟨(mxF L st sym i a).trans ++ [(mxL L st i (mxF L st sym i a)).take st], (mxF L st sym i a).stop ++ [(mxL L st i (mxF L st sym i a)).getD st 0], (mxF L st sym i a).sil ++ [mxS L (mxF L st sym i a)], (mxF L st sym i a).emit ++ [mxE L st sym (mxF L st sym i a)],
   (mxF L st sym i a).ties++[(mxT L st sym i (mxF L st sym i a)).1],(mxT L st sym i (mxF L st sym i a)).2⟩
def mixMS (L:List Int)(st sym i:Nat):MX:=mxF L st sym i (shA L (st+1) 0)
def mixHM (L:List Int)(cs cy most:Int):HM :=
 ⟨chSym cy,chSt cs most,(chFirst L (chSt cs most)).getD (chSt cs most) 0,(chFirst L (chSt cs most)).take (chSt cs most),(mixMS L (chSt cs most) (chSym cy) (chSt cs most)).trans,(mixMS L (chSt cs most) (chSym cy) (chSt cs most)).stop,
  (mixMS L (chSt cs most) (chSym cy) (chSt cs most)).emit,(mixMS L (chSt cs most) (chSym cy) (chSt cs most)).sil,(mixMS L (chSt cs most) (chSym cy) (chSt cs most)).ties⟩
section
variable {L:List Int}{st sym i j q n:Nat}{l:List Rat}{e:List Rat}
theorem cutS_len:(cutS l st j).length=st+1:=by simp [cutS]
theorem cutS_get (hq:q≤st):(cutS l st j).getD q 0=if q=st then endS l st j else if q<j then 0 else l.getD q 0:=map_getD_range _ _ (by omega)
theorem endS_nn (hl:Shares l):∀ j,0≤endS l st j
 | 0=>(hl.get st).1
 | j+1=>Rat.add_nonneg (endS_nn hl j) (hl.get j).1
theorem endS_sz (hz:Small 1 l):∀ j,sz (endS l st j)≤1+2*j
 | 0=>hz.get (Nat.le_refl _) st
 | j+1=>by
  have h1:=endS_sz hz j
  have h2:=sz_add (endS l st j) (l.getD j 0)
  have h3:=hz.get (Nat.le_refl 1) j
  show sz (endS l st j+l.getD j 0)≤_
  omega
theorem cut_sum (hl:l.length=st+1)(hj:j≤st):sumQ (cutS l st j)=sumQ l:=by
 have key:∀ k,k≤st→endS l st k+sumN (fun q=>if q<k then 0 else l.getD q 0) st=l.getD st 0+sumN (fun q=>l.getD q 0) st:=fun k=>by
  induction k with
  | zero =>
   intro _
   rw [endS]
   congr 1
  | succ k ih =>
   intro hk
   rw [← ih (by omega),endS,sumN_one (f:=fun q=>if q<k then 0 else l.getD q 0) (show k<st by omega),if_neg (by omega),Rat.add_assoc]
   congr 2
   refine sumN_congr fun q _=>?_
   by_cases e1:q=k
   ·rw [if_pos (by omega),if_pos e1]
   ·rw [if_neg e1]
    by_cases e2:q<k
    ·rw [if_pos (by omega),if_pos e2]
    ·rw [if_neg (by omega),if_neg e2]
 have e1:sumQ (cutS l st j)=sumN (fun q=>(cutS l st j).getD q 0) (st+1):=(sum_row cutS_len).symm
 have e2:sumQ l=sumN (fun q=>l.getD q 0) (st+1):=(sum_row hl).symm
 rw [e1,e2,sumN,sumN,cutS_get (Nat.le_refl _),if_pos rfl]
 have e3:sumN (fun q=>(cutS l st j).getD q 0) st=sumN (fun q=>if q<j then 0 else l.getD q 0) st:=sumN_congr fun q hq=>by rw [cutS_get (by omega),if_neg (by omega)]
 rw [e3,Rat.add_comm,key j hj,Rat.add_comm]
theorem share_le {l:List Rat}(nn:∀ i,0≤l.getD i 0)(hs:sumQ l=1):Shares l:=fun x hx=>by
 obtain ⟨i,hi,rfl⟩:=mem_getD hx 0
 refine ⟨nn i,?_⟩
 rw [← sum_row (l:=l) rfl,sumN_one (f:=fun q=>l.getD q 0) hi] at hs
 rw [← hs]
 refine le_addR (sumN_ge (fun k=>?_) _)
 split
 ·exact Rat.le_refl
 ·exact nn k
theorem cut_shares (hl:l.length=st+1)(hs:Shares l)(hsum:sumQ l=1)(hj:j≤st):Shares (cutS l st j):=by
 refine share_le (fun i=>?_) (by rw [cut_sum hl hj];exact hsum)
 rcases Nat.lt_or_ge i (st+1) with hi|hi
 ·rw [cutS_get (by omega)]
  split
  ·exact endS_nn hs j
  ·split
   ·exact Rat.le_refl
   ·exact (hs.get i).1
 ·rw [getD_ge (by rw [cutS_len];exact hi)];exact Rat.le_refl
theorem cut_small (hz:Small 1 l)(hj:j≤n):Small (1+2*n) (cutS l st j):=fun x hx=>by
 obtain ⟨i,hi,rfl⟩:=mem_getD hx 0
 rw [cutS_len] at hi
 rw [cutS_get (by omega)]
 split
 ·have:=endS_sz (st:=st) hz j;omega
 ·split
  ·rw [sz_zero];omega
  ·have:=hz.get (Nat.le_refl 1) i;omega
def TieOK (sil:List Bool)(emits:List (List Rat))(i:Nat)(e:List Rat)(t:Int):Prop:=t=i ∨ (0≤t∧t<i∧sil.getD t.toNat false=false∧emits.getD t.toNat []=e)
theorem tieX_ok {emits:List (List Rat)}{sil:List Bool}{ties:List Int}{s:Bool}(ht:∀ j,j<i→sil.getD j false=false→0≤ties.getD j 0∧ties.getD j 0≤j∧sil.getD (ties.getD j 0).toNat false=false∧emits.getD j []=emits.getD (ties.getD j 0).toNat []) :
  ∀ (f j a:Nat) (t:Int),j+f=i→TieOK sil emits i e t→(s=true→t=i)→TieOK sil emits i e (tieX L emits sil ties e s i f j a t).1∧(s=true→(tieX L emits sil ties e s i f j a t).1=i)
 | 0,_,_,_,_,h,k=>⟨h,k⟩
 | f + 1, j, a, t, hj, h, k => by
  rw [tieX]
  split
  ·refine tieX_ok ht f (j+1) (tat L a) _ (by omega) ?_ (fun hs=>?_)
   ·split
    ·rename_i he
     obtain ⟨h1,h2,h3,h4⟩:=ht j (by omega) he.2.1
     exact .inr ⟨h1,by omega,h3,by rw [← h4];exact he.2.2⟩
    ·exact h
   ·rw [if_neg (fun c=>by rw [hs] at c;cases c.1)];exact k hs
  ·exact ⟨h,k⟩
theorem tieX_at {emits:List (List Rat)}{sil:List Bool}{ties:List Int}{s:Bool}:∀ (f j a:Nat) (t:Int),a≤L.length→(tieX L emits sil ties e s i f j a t).2≤L.length
 | 0,_,_,_,h=>h
 | f+1,j,a,t,h=>by
  rw [tieX]
  split
  ·exact tieX_at f (j+1) (tat L a) _ (tat_le h)
  ·exact tat_le h
structure MX.OK (L:List Int) (st sym i:Nat) (m:MX):Prop where
 lt:m.trans.length=i
 ls:m.stop.length=i
 lq:m.sil.length=i
 le:m.emit.length=i
 ll:m.ties.length=i
 rowT:∀ j,j<i→(m.trans.getD j []).length=st∧Shares (m.trans.getD j [])∧Small (1+2*st) (m.trans.getD j [])∧Share (m.stop.getD j 0)∧sz (m.stop.getD j 0)≤1+2*st∧sumQ (m.trans.getD j []++[m.stop.getD j 0])=1
 fwd:∀ j,j<i→m.sil.getD j false=true→∀ k,k≤j→(m.trans.getD j []).getD k 0=0
 rowE:∀ j,j<i→(m.emit.getD j []).length=(if m.sil.getD j false then 0 else sym)∧Shares (m.emit.getD j [])∧Small 1 (m.emit.getD j [])∧(m.sil.getD j false=false→sumQ (m.emit.getD j [])=1)
 tie:∀ j,j<i→m.sil.getD j false=false→0≤m.ties.getD j 0∧m.ties.getD j 0≤j∧m.sil.getD (m.ties.getD j 0).toNat false=false∧m.emit.getD j []=m.emit.getD (m.ties.getD j 0).toNat []
 tiS:∀ j,j<i→0≤m.ties.getD j 0∧m.ties.getD j 0≤j
 a:m.a≤L.length
theorem mxF_ok (h1:1≤st∧st≤1000)(h2:1≤sym∧sym≤1000){a:Nat}(ha:a≤L.length):∀ i,i≤st→(mxF L st sym i a).OK L st sym i
 | 0,_=>⟨rfl,rfl,rfl,rfl,rfl,fun j h=>by omega,fun j h=>by omega,fun j h=>by omega,fun j h=>by omega,fun j h=>by omega,ha⟩
 | i + 1, hi => by
  have ih:=mxF_ok h1 h2 ha i (by omega)
  generalize hm:mxF L st sym i a=m at ih
  have l0:(mxL0 L st m).length=st+1:=shares_len ..
  have s0:=shares_share L (st+1) (tat L m.a) (by omega)
  have z0:=shares_small L (st+1) (tat L m.a) (by omega) (by omega)
  have u0:=shares_sum L (st+1) (tat L m.a) (by omega)
  have hl:(mxL L st i m).length=st+1:=by unfold mxL;split;exact cutS_len;exact l0
  have hs:Shares (mxL L st i m):=by unfold mxL;split;exact cut_shares l0 s0 u0 (by omega);exact s0
  have hz:Small (1+2*st) (mxL L st i m):=by unfold mxL;split;exact cut_small z0 (by omega);exact Small.mono z0 (by omega)
  have hsum:sumQ (mxL L st i m)=1:=by unfold mxL;split;(rw [cut_sum l0 (by omega)];exact u0);exact u0
  have a0:=tat_le ih.a
  have a1:mxA1 L st m≤L.length:=shA_le (st+1) a0
  have a2:mxA2 L st sym m≤L.length:=by unfold mxA2;split;exact a1;exact shA_le sym a1
  have eS:∀ j,j<i→(m.sil++[mxS L m]).getD j false=m.sil.getD j false:=fun j hj=>getD_snoc_lt (by rw [ih.lq];exact hj)
  have eE:∀ j,j<i→(m.emit++[mxE L st sym m]).getD j []=m.emit.getD j []:=fun j hj=>getD_snoc_lt (by rw [ih.le];exact hj)
  have eN:(m.sil++[mxS L m]).getD i false=mxS L m:=getD_snoc_eq ih.lq.symm
  have eM:(m.emit++[mxE L st sym m]).getD i []=mxE L st sym m:=getD_snoc_eq ih.le.symm
  have htie:=tieX_ok (L:=L) (e:=mxE L st sym m) (i:=i) (emits:=m.emit++[mxE L st sym m]) (sil:=m.sil++[mxS L m]) (ties:=m.ties) (s:=mxS L m) (fun j hj hsj=>by
   rw [eS j hj] at hsj
   obtain ⟨t1,t2,t3,t4⟩:=ih.tie j hj hsj
   rw [eS _ (by omega),eE _ hj,eE _ (by omega)]
   exact ⟨t1,t2,t3,t4⟩) i 0 (mxA2 L st sym m) i (by omega) (.inl rfl) (fun _=>rfl)
  have hta:=tieX_at (L:=L) (emits:=m.emit++[mxE L st sym m]) (sil:=m.sil++[mxS L m]) (ties:=m.ties) (e:=mxE L st sym m) (s:=mxS L m) (i:=i) i 0 (mxA2 L st sym m) i a2
  have step:mxF L st sym (i+1) a=⟨m.trans++[(mxL L st i m).take st],m.stop++[(mxL L st i m).getD st 0],m.sil++[mxS L m],m.emit++[mxE L st sym m],m.ties++[(mxT L st sym i m).1],(mxT L st sym i m).2⟩:=by rw [mxF,hm]
  rw [step]
  have tT:∀ j,j<i→(m.trans++[(mxL L st i m).take st]).getD j []=m.trans.getD j []:=fun j hj=>getD_snoc_lt (by rw [ih.lt];exact hj)
  have tS:∀ j,j<i→(m.stop++[(mxL L st i m).getD st 0]).getD j 0=m.stop.getD j 0:=fun j hj=>getD_snoc_lt (by rw [ih.ls];exact hj)
  have tI:∀ j,j<i→(m.ties++[(mxT L st sym i m).1]).getD j 0=m.ties.getD j 0:=fun j hj=>getD_snoc_lt (by rw [ih.ll];exact hj)
  have nI:(m.ties++[(mxT L st sym i m).1]).getD i 0=(mxT L st sym i m).1:=getD_snoc_eq ih.ll.symm
  refine ⟨by simp [ih.lt],by simp [ih.ls],by simp [ih.lq],by simp [ih.le],by simp [ih.ll],fun j hj=>?_,fun j hj hsj k hk=>?_,fun j hj=>?_,fun j hj hsj=>?_,fun j hj=>?_,hta⟩
  ·show ((m.trans++[(mxL L st i m).take st]).getD j []).length=st∧Shares ((m.trans++[(mxL L st i m).take st]).getD j [])∧Small (1+2*st) ((m.trans++[(mxL L st i m).take st]).getD j [])∧Share ((m.stop++[(mxL L st i m).getD st 0]).getD j 0)∧sz ((m.stop++[(mxL L st i m).getD st 0]).getD j 0)≤1+2*st∧sumQ ((m.trans++[(mxL L st i m).take st]).getD j []++[(m.stop++[(mxL L st i m).getD st 0]).getD j 0])=1
   by_cases hji:j<i
   ·rw [tT j hji,tS j hji];exact ih.rowT j hji
   ·obtain rfl:j=i:=by omega
    rw [getD_snoc_eq ih.lt.symm,getD_snoc_eq ih.ls.symm]
    refine ⟨take_len (by omega),fun q hq=>hs q (List.mem_of_mem_take hq),fun q hq=>hz q (List.mem_of_mem_take hq),hs.get st,hz.get (by omega) st,?_⟩
    rw [split_last hl];exact hsum
  ·show ((m.trans++[(mxL L st i m).take st]).getD j []).getD k 0=0
   change (m.sil++[mxS L m]).getD j false=true at hsj
   by_cases hji:j<i
   ·rw [eS j hji] at hsj
    rw [tT j hji];exact ih.fwd j hji hsj k hk
   ·obtain rfl:j=i:=by omega
    rw [eN] at hsj
    rw [getD_snoc_eq ih.lt.symm]
    have e:((mxL L st j m).take st).getD k 0=(mxL L st j m).getD k 0:=by
     rw [gd9,List.getElem?_take,if_pos (by omega),← gd9]
    rw [e]
    unfold mxL
    rw [if_pos hsj,cutS_get (by omega),if_neg (by omega),if_pos (by omega)]
  ·show ((m.emit++[mxE L st sym m]).getD j []).length=(if (m.sil++[mxS L m]).getD j false then 0 else sym)∧Shares ((m.emit++[mxE L st sym m]).getD j [])∧Small 1 ((m.emit++[mxE L st sym m]).getD j [])∧((m.sil++[mxS L m]).getD j false=false→sumQ ((m.emit++[mxE L st sym m]).getD j [])=1)
   by_cases hji:j<i
   ·rw [eS j hji,eE j hji];exact ih.rowE j hji
   ·obtain rfl:j=i:=by omega
    rw [eN,eM]
    unfold mxE
    cases hq:mxS L m with
    | true=>rw [if_pos rfl,if_pos rfl];exact ⟨rfl,fun q hq=>(by cases hq),Small.nil,fun c=>(by cases c)⟩
    | false =>
     rw [if_neg (by decide),if_neg (by decide)]
     exact ⟨shares_len ..,shares_share _ _ _ (by omega),shares_small _ _ _ (by omega) (by omega),fun _=>shares_sum _ _ _ (by omega)⟩
  ·show 0≤(m.ties++[(mxT L st sym i m).1]).getD j 0∧(m.ties++[(mxT L st sym i m).1]).getD j 0≤j∧(m.sil++[mxS L m]).getD ((m.ties++[(mxT L st sym i m).1]).getD j 0).toNat false=false∧(m.emit++[mxE L st sym m]).getD j []=(m.emit++[mxE L st sym m]).getD ((m.ties++[(mxT L st sym i m).1]).getD j 0).toNat []
   change (m.sil++[mxS L m]).getD j false=false at hsj
   by_cases hji:j<i
   ·rw [eS j hji] at hsj
    obtain ⟨t1,t2,t3,t4⟩:=ih.tie j hji hsj
    rw [tI j hji,eS _ (by omega),eE j hji,eE _ (by omega)]
    exact ⟨t1,t2,t3,t4⟩
   ·obtain rfl:j=i:=by omega
    rw [nI]
    have e1:TieOK (m.sil++[mxS L m]) (m.emit++[mxE L st sym m]) j (mxE L st sym m) (mxT L st sym j m).1:=htie.1
    rw [eM]
    rcases e1 with t|⟨t1,t2,t3,t4⟩
    ·rw [t,Int.toNat_natCast]
     exact ⟨by omega,by omega,hsj,eM.symm⟩
    ·exact ⟨t1,by omega,t3,t4.symm⟩
  ·show 0≤(m.ties++[(mxT L st sym i m).1]).getD j 0∧(m.ties++[(mxT L st sym i m).1]).getD j 0≤j
   by_cases hji:j<i
   ·rw [tI j hji];exact ih.tiS j hji
   ·obtain rfl:j=i:=by omega
    rw [nI]
    have e1:TieOK (m.sil++[mxS L m]) (m.emit++[mxE L st sym m]) j (mxE L st sym m) (mxT L st sym j m).1:=htie.1
    rcases e1 with t|⟨t1,t2,_,_⟩
    ·rw [t];exact ⟨by omega,by omega⟩
    ·exact ⟨t1,by omega⟩
end
section
variable {L:List Int}{cs cy most:Int}
theorem mix_ok (h:1≤most∧most≤12):(mixMS L (chSt cs most) (chSym cy) (chSt cs most)).OK L (chSt cs most) (chSym cy) (chSt cs most):=by
 obtain ⟨s1,s2,_⟩:=chSt_range (cs:=cs) h
 obtain ⟨y1,y2,_⟩:=chSym_range cy
 exact mxF_ok ⟨s1,by omega⟩ ⟨y1,by omega⟩ (shA_le (chSt cs most+1) (Nat.zero_le _)) _ (Nat.le_refl _)
theorem mix_form (h:1≤most∧most≤12):(mixHM L cs cy most).FormS∧(mixHM L cs cy most).Sums∧(mixHM L cs cy most).Tied:=by
 obtain ⟨s1,s2,_⟩:=chSt_range (cs:=cs) h
 obtain ⟨y1,y2,_⟩:=chSym_range cy
 have hm:=mix_ok (L:=L) (cs:=cs) (cy:=cy) h
 have hl:(chFirst L (chSt cs most)).length=chSt cs most+1:=shares_len ..
 have hs:=shares_share L (chSt cs most+1) 0 (by omega)
 have hz:=shares_small L (chSt cs most+1) 0 (by omega) (by omega)
 have hsum:=shares_sum L (chSt cs most+1) 0 (by omega)
 have out:∀ (l:List (List Rat)) (i:Nat),¬ i<l.length→l.getD i []=[]:=fun l i hi=>getD_ge (by omega)
 refine ⟨⟨y1,by show chSym cy≤32;omega,s1,by show chSt cs most≤12;omega,take_len (by omega),hm.lt,fun i hi=>(hm.rowT i hi).1,hm.ls,hm.le,fun i hi=>(hm.rowE i hi).1,hm.lq,hm.ll,fun i hi=>?_,Nat.le_trans (hz _ (getD_mem (by rw [shares_len];omega) _)) (by decide),fun q hq=>Nat.le_trans (hz q (List.mem_of_mem_take hq)) (by decide),fun q hq=>?_,fun i=>?_,fun i=>?_,
  hs _ (getD_mem (by rw [shares_len];omega) _),fun q hq=>hs q (List.mem_of_mem_take hq),fun q hq=>?_,fun i=>?_,fun i=>?_⟩,⟨?_,fun i hi=>(hm.rowT i hi).2.2.2.2.2,fun i hi hsi=>(hm.rowE i hi).2.2.2 hsi⟩,fun i j hi hj hsi hsj ht=>?_⟩
 ·obtain ⟨t1,t2⟩:=hm.tiS i hi
  have hi2:i<chSt cs most:=hi
  refine ⟨t1,?_⟩
  show (mixMS L (chSt cs most) (chSym cy) (chSt cs most)).ties.getD i 0<((chSt cs most:Nat):Int)
  omega
 ·obtain ⟨i,hi,rfl⟩:=mem_getD hq 0
  exact Nat.le_trans (hm.rowT i (by rw [← hm.ls];exact hi)).2.2.2.2.1 (by omega)
 ·show Small 1048576 ((mixMS L (chSt cs most) (chSym cy) (chSt cs most)).trans.getD i [])
  by_cases hi:i<chSt cs most
  ·exact (hm.rowT i hi).2.2.1.mono (by omega)
  ·rw [out _ _ (by rw [hm.lt];exact hi)];exact Small.nil
 ·show Small 1048576 ((mixMS L (chSt cs most) (chSym cy) (chSt cs most)).emit.getD i [])
  by_cases hi:i<chSt cs most
  ·exact (hm.rowE i hi).2.2.1.mono (by decide)
  ·rw [out _ _ (by rw [hm.le];exact hi)];exact Small.nil
 ·obtain ⟨i,hi,rfl⟩:=mem_getD hq 0
  exact (hm.rowT i (by rw [← hm.ls];exact hi)).2.2.2.1
 ·show Shares ((mixMS L (chSt cs most) (chSym cy) (chSt cs most)).trans.getD i [])
  by_cases hi:i<chSt cs most
  ·exact (hm.rowT i hi).2.1
  ·rw [out _ _ (by rw [hm.lt];exact hi)];intro q hq;cases hq
 ·show Shares ((mixMS L (chSt cs most) (chSym cy) (chSt cs most)).emit.getD i [])
  by_cases hi:i<chSt cs most
  ·exact (hm.rowE i hi).2.1
  ·rw [out _ _ (by rw [hm.le];exact hi)];intro q hq;cases hq
 ·show sumQ ((chFirst L (chSt cs most)).take (chSt cs most)++[(chFirst L (chSt cs most)).getD (chSt cs most) 0])=1
  rw [split_last hl];exact hsum
 ·have hi':i<chSt cs most:=hi
  obtain ⟨_,_,_,b1⟩:=hm.tie i hi' hsi
  obtain ⟨_,_,_,b2⟩:=hm.tie j (by omega) hsj
  show (mixMS L (chSt cs most) (chSym cy) (chSt cs most)).emit.getD i []=(mixMS L (chSt cs most) (chSym cy) (chSt cs most)).emit.getD j []
  rw [b1,b2]
  exact congrArg (fun t:Int=>(mixMS L (chSt cs most) (chSym cy) (chSt cs most)).emit.getD t.toNat []) ht
def ascO (h:HM):List Nat:=(List.range h.st).filter fun i=>h.silent.getD i false
theorem ascO_ord {h:HM}(hf:∀ j,j<h.st→h.silent.getD j false=true→∀ k,k≤j→trQ h j k=0):OrdS h (ascO h):=by
 refine ⟨fun k=>by unfold ascO;rw [List.mem_filter,List.mem_range],fun u i v e k hk=>?_,by unfold ascO;exact Nat.le_trans (List.length_filter_le ..) (by rw [List.length_range];exact Nat.le_refl _)⟩
 have hp:(ascO h).Pairwise (· < ·):=List.Pairwise.filter _ (List.pairwise_lt_range)
 have hi:i<h.st∧h.silent.getD i false=true:=by
  have:i ∈ ascO h:=by rw [e];simp
  unfold ascO at this
  rwa [List.mem_filter,List.mem_range] at this
 refine hf i hi.1 hi.2 k ?_
 rcases hk with hk|hk
 ·rw [e,List.pairwise_append] at hp
  exact Nat.le_of_lt (hp.2.2 k hk i mc9)
 ·omega
theorem mix_ord (h:1≤most∧most≤12):OrdS (mixHM L cs cy most) (ascO (mixHM L cs cy most)):=ascO_ord (mix_ok h).fwd
theorem mix_ranked (h:1≤most∧most≤12):(mixHM L cs cy most).Ranked:=by
 refine ⟨fun i=>(mixHM L cs cy most).st-i,fun i j hi hj si sj hp=>?_⟩
 rcases Nat.lt_or_ge i j with c|c
 ·show (mixHM L cs cy most).st-j<(mixHM L cs cy most).st-i
  omega
 ·have:=(mix_ok (L:=L) (cs:=cs) (cy:=cy) h).fwd i hi si j c
  rw [show ((mixHM L cs cy most).trans.getD i []).getD j 0=0 from this] at hp
  exact absurd hp (Rat.lt_irrefl)
end
end Go.AL

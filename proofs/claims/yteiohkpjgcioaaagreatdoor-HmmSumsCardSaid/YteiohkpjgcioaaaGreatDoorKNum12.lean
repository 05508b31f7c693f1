/-
  N, part 12: any model, as it comes: its numbers as limbs, its lists of any length; what the checks of models say of it.
-/
import Derived.Test.YteiohkpjgcioaaaGreatDoorKNumb
set_option linter.unusedVariables false
set_option linter.unusedSimpArgs false
namespace Go.AL
open Go Go.BigFrame
def cnt (p:Nat→Bool):Nat→Nat
 | 0=>0
 | n+1=>cnt p n+(if p n then 1 else 0)
theorem cnt_le {p q:Nat→Bool}:∀ {n:Nat},(∀ k,k<n→p k=true→q k=true)→cnt p n≤cnt q n
 | 0,_=>Nat.le_refl _
 | n+1,h=>by
  have h1:=cnt_le (n:=n) (fun k hk=>h k (by omega))
  have h2:=h n (by omega)
  unfold cnt
  cases hp:p n with
  | false=>simp only [Bool.false_eq_true,if_false];omega
  | true=>rw [h2 hp];simp only [if_true];omega
theorem cnt_lt {p q:Nat→Bool}:∀ {n:Nat},(∀ k,k<n→p k=true→q k=true)→(∃ k,k<n∧p k=false∧q k=true)→cnt p n<cnt q n
 | 0,_,⟨k,hk,_⟩=>by omega
 | n + 1, h, ⟨k, hk, h0, h1⟩ => by
  unfold cnt
  by_cases e:k=n
  ·subst e
   have h2:=cnt_le (n:=k) (fun j hj=>h j (by omega))
   rw [h0,h1];simp only [Bool.false_eq_true,if_false,if_true];omega
  ·have h2:=cnt_lt (n:=n) (fun j hj=>h j (by omega)) ⟨k,by omega,h0,h1⟩
   have h3:=h n (by omega)
   cases hp:p n with
   | false=>simp only [Bool.false_eq_true,if_false];omega
   | true=>rw [h3 hp];simp only [if_true];omega
theorem cnt_bound {p:Nat→Bool}:∀ n:Nat,cnt p n≤n
 | 0=>Nat.le_refl _
 | n+1=>by have:=cnt_bound (p:=p) n;unfold cnt;split <;> omega
abbrev dRs (l:List Raw):D:=.sl (l.map dRaw)
abbrev dRss (l:List (List Raw)):D:=.sl (l.map dRs)
structure Raw.Med (r:Raw):Prop where
 num:Lim r.num
 den:Lim r.den
 ln:r.num.length≤1048576
 ld:r.den.length≤1048576
theorem Raw.Med.ok {r:Raw}(h:r.Med):r.Ok:=⟨h.num,h.den,Nat.le_trans h.ln (by decide),Nat.le_trans h.ld (by decide)⟩
theorem Raw.Med.sm {r:Raw}(h:r.Med):r.Sm:=⟨h.ok,Nat.le_trans h.ln (by decide),Nat.le_trans h.ld (by decide)⟩
theorem Raw.Med.sz {r:Raw}(h:r.Med):Go.AL.sz r.q≤1048576:=q_sz h.ok h.ln h.ld (by decide)
theorem ofQ_q {r:Raw}(h:r.Ok)(g:r.good=true):ofQ r.q=r:=by
 obtain ⟨f1,f2,f3,f4⟩:=good_fields h g
 obtain ⟨s,n,d⟩:=r
 simp only at f1 f2 f3 f4
 unfold ofQ
 rw [← f1,← f2]
 by_cases e:d=[]
 ·rw [if_pos (f3 e),e]
 ·rw [← f4 e]
  by_cases e2:((⟨s,n,d⟩:Raw).q).den=1
  ·exfalso
   have hv:val d=1:=by rw [f4 e,e2,val_lim]
   have hn:n≠[]:=fun e3=>by
    unfold Raw.good at g
    simp only [e3] at g
    simp [e] at g
   unfold Raw.good at g
   simp [hn,e,hv] at g
  ·rw [if_neg e2]
def shareR (r:Raw):Bool:=r.good && decide (Share r.q)
def SharesR (l:List Raw):Prop:=∀ r,r ∈ l→shareR r=true
def MedL (l:List Raw):Prop:=∀ r,r ∈ l→r.Med
theorem SharesR.good {l:List Raw}(h:SharesR l):∀ r,r ∈ l→r.good=true:=fun r hr=>by have:=h r hr;unfold shareR at this;rw [Bool.and_eq_true] at this;exact this.1
theorem SharesR.shares {l:List Raw}(h:SharesR l):Shares (l.map Raw.q):=fun q hq=>by
 obtain ⟨r,hr,rfl⟩:=mm9 hq
 have:=h r hr;unfold shareR at this;rw [Bool.and_eq_true] at this
 exact dt9 this.2
theorem MedL.small {l:List Raw}(h:MedL l):Small 1048576 (l.map Raw.q):=fun q hq=>by
 obtain ⟨r,hr,rfl⟩:=mm9 hq
 exact (h r hr).sz
theorem dRs_eq {l:List Raw}(h:SharesR l)(m:MedL l):dRs l=dQs (l.map Raw.q):=by
 unfold dRs dQs
 rw [List.map_map]
 congr 1
 refine List.map_congr_left fun r hr=>?_
 show dRaw r=dRaw (ofQ r.q)
 rw [ofQ_q (m r hr).ok (h.good r hr)]
theorem dRss_eq {l:List (List Raw)}(h:∀ x,x ∈ l→SharesR x)(m:∀ x,x ∈ l→MedL x):dRss l=dQss (l.map (List.map Raw.q)):=by
 unfold dRss dQss
 rw [List.map_map]
 congr 1
 exact List.map_congr_left fun x hx=>dRs_eq (h x hx) (m x hx)
structure RM where
 sym:Int
 st:Int
 empty:Raw
 ini:List Raw
 trans:List (List Raw)
 stop:List Raw
 emit:List (List Raw)
 silent:List Bool
 ties:List Int
abbrev vRM (h:RM):V:=.ag [.d (dI h.sym),.d (dI h.st),.d (dB h.empty.neg),.d (u32s h.empty.num),.d (u32s h.empty.den),.d (dRs h.ini),.d (dRss h.trans),.d (dRs h.stop),.d (dRss h.emit),.d (bools h.silent),.d (ints h.ties)]
structure RM.Sz (h:RM):Prop where
 e:h.empty.Med
 i:MedL h.ini
 s:MedL h.stop
 t:∀ x,x ∈ h.trans→MedL x
 m:∀ x,x ∈ h.emit→MedL x
 li:h.ini.length≤1048576
 ls:h.stop.length≤1048576
 lt:h.trans.length≤1048576
 lm:h.emit.length≤1048576
 ltr:∀ x,x ∈ h.trans→x.length≤1048576
 lmr:∀ x,x ∈ h.emit→x.length≤1048576
 ll:h.silent.length≤1048576
 lk:h.ties.length≤1048576
def RM.Rng (h:RM):Prop:=(1≤h.sym∧h.sym≤32)∧1≤h.st∧h.st≤12
instance (h:RM):Decidable h.Rng:=inferInstanceAs (Decidable (_∧_))
structure RM.Fm (h:RM):Prop where
 li:(h.ini.length:Int)=h.st
 ls:(h.stop.length:Int)=h.st
 ll:(h.silent.length:Int)=h.st
 lk:(h.ties.length:Int)=h.st
 lt:(h.trans.length:Int)=h.st
 lm:(h.emit.length:Int)=h.st
 e:shareR h.empty=true
 i:SharesR h.ini
 s:SharesR h.stop
 row:∀ i:Nat,(i:Int)<h.st→((h.trans.getD i []).length:Int)=h.st∧((h.emit.getD i []).length:Int)=(if h.silent.getD i false then 0 else h.sym)∧SharesR (h.trans.getD i [])∧SharesR (h.emit.getD i [])∧0≤h.ties.getD i 0∧h.ties.getD i 0<h.st
abbrev RM.RowOK (h:RM)(i:Nat):Prop:=((h.trans.getD i []).length:Int)=h.st∧((h.emit.getD i []).length:Int)=(if h.silent.getD i false then 0 else h.sym)∧SharesR (h.trans.getD i [])∧SharesR (h.emit.getD i [])∧0≤h.ties.getD i 0∧h.ties.getD i 0<h.st
def hm (h:RM):HM:=⟨h.sym.toNat,h.st.toNat,h.empty.q,h.ini.map Raw.q,h.trans.map (List.map Raw.q),h.stop.map Raw.q,h.emit.map (List.map Raw.q),h.silent,h.ties⟩
structure HM.FormS (h:HM):Prop where
 sym0:1≤h.sym
 sym1:h.sym≤32
 st0:1≤h.st
 st1:h.st≤12
 ini:h.ini.length=h.st
 trans:h.trans.length=h.st
 trow:∀ i,i<h.st→(h.trans.getD i []).length=h.st
 stop:h.stop.length=h.st
 emit:h.emit.length=h.st
 erow:∀ i,i<h.st→(h.emit.getD i []).length=if h.silent.getD i false then 0 else h.sym
 sill:h.silent.length=h.st
 ties:h.ties.length=h.st
 tie:∀ i,i<h.st→0≤h.ties.getD i 0∧h.ties.getD i 0<h.st
 zE:sz h.empty≤1048576
 zI:Small 1048576 h.ini
 zS:Small 1048576 h.stop
 zT:∀ i,Small 1048576 (h.trans.getD i [])
 zM:∀ i,Small 1048576 (h.emit.getD i [])
 pE:Share h.empty
 pI:Shares h.ini
 pS:Shares h.stop
 pT:∀ i,Shares (h.trans.getD i [])
 pM:∀ i,Shares (h.emit.getD i [])
structure HM.Sums (h:HM):Prop where
 i:sumQ (h.ini++[h.empty])=1
 t:∀ i,i<h.st→sumQ (h.trans.getD i []++[h.stop.getD i 0])=1
 m:∀ i,i<h.st→h.silent.getD i false=false→sumQ (h.emit.getD i [])=1
abbrev HM.SumRow (h:HM)(i:Nat):Prop:=sumQ (h.trans.getD i []++[h.stop.getD i 0])=1∧(h.silent.getD i false=false→sumQ (h.emit.getD i [])=1)
abbrev HM.TiedAt (h:HM)(i j:Nat):Prop:=h.silent.getD i false=false→h.silent.getD j false=false→h.ties.getD i 0=h.ties.getD j 0→h.emit.getD i []=h.emit.getD j []
theorem upto_stp {p:Nat→Prop}{i:Nat}(h:∀ j,j<i→p j)(k:p i):∀ j,j<i+1→p j:=fun j hj=>by
 rcases Nat.lt_or_ge j i with x|x
 ·exact h j x
 ·obtain rfl:j=i:=by omega
  exact k
theorem HM.FormS.erow_le {h:HM}(f:h.FormS)(i:Nat)(hi:i<h.st):(h.emit.getD i []).length≤32:=by
 have h1:=f.erow i hi
 have h2:=f.sym1
 split at h1 <;> omega
def HM.IsRank (h:HM)(r:Nat→Nat):Prop:=∀ i j,i<h.st→j<h.st→h.silent.getD i false=true→h.silent.getD j false=true→0<(h.trans.getD i []).getD j 0→r j<r i
def HM.Ranked (h:HM):Prop:=∃ r,h.IsRank r
def HM.Tied (h:HM):Prop:=∀ i j,i<h.st→j<i→h.silent.getD i false=false→h.silent.getD j false=false→h.ties.getD i 0=h.ties.getD j 0→h.emit.getD i []=h.emit.getD j []
theorem getD_map0 {α β:Type}(f:α→β)(l:List α)(i:Nat)(d:α):(l.map f).getD i (f d)=f (l.getD i d):=by
 rw [gd9,gd9,List.getElem?_map]
 cases l[i]? <;> rfl
theorem RM.Fm.form {h:RM}(f:h.Fm)(g:h.Rng)(z:h.Sz):(hm h).FormS:=by
 obtain ⟨⟨g1,g2⟩,g3,g4⟩:=g
 have hst:((hm h).st:Int)=h.st:=by show ((h.st.toNat:Nat):Int)=_;omega
 have hsy:((hm h).sym:Int)=h.sym:=by show ((h.sym.toNat:Nat):Int)=_;omega
 have f1:=f.li;have f2:=f.ls;have f3:=f.ll;have f4:=f.lk;have f5:=f.lt;have f6:=f.lm
 have hT:∀ i,(hm h).trans.getD i []=(h.trans.getD i []).map Raw.q:=fun i=>getD_map0 (List.map Raw.q) h.trans i []
 have hE:∀ i,(hm h).emit.getD i []=(h.emit.getD i []).map Raw.q:=fun i=>getD_map0 (List.map Raw.q) h.emit i []
 have mT:∀ i,MedL (h.trans.getD i []):=fun i=>by
  rcases Nat.lt_or_ge i h.trans.length with hi|hi
  ·exact z.t _ (getD_mem hi _)
  ·rw [gd9,List.getElem?_eq_none hi];exact fun r hr=>by cases hr
 have mE:∀ i,MedL (h.emit.getD i []):=fun i=>by
  rcases Nat.lt_or_ge i h.emit.length with hi|hi
  ·exact z.m _ (getD_mem hi _)
  ·rw [gd9,List.getElem?_eq_none hi];exact fun r hr=>by cases hr
 have sT:∀ i,SharesR (h.trans.getD i []):=fun i=>by
  rcases Nat.lt_or_ge i h.trans.length with hi|hi
  ·exact (f.row i (by omega)).2.2.1
  ·rw [gd9,List.getElem?_eq_none hi];exact fun r hr=>by cases hr
 have sE:∀ i,SharesR (h.emit.getD i []):=fun i=>by
  rcases Nat.lt_or_ge i h.emit.length with hi|hi
  ·exact (f.row i (by omega)).2.2.2.1
  ·rw [gd9,List.getElem?_eq_none hi];exact fun r hr=>by cases hr
 have se:=f.e
 unfold shareR at se
 rw [Bool.and_eq_true] at se
 exact {
  sym0:=by omega,sym1:=by omega,st0:=by omega,st1:=by omega
  ini:=by show (h.ini.map _).length=_;rw [lm9];omega
  trans:=by show (h.trans.map _).length=_;rw [lm9];omega
  trow:=fun i hi=>by rw [hT,lm9];have:=(f.row i (by omega)).1;omega
  stop:=by show (h.stop.map _).length=_;rw [lm9];omega
  emit:=by show (h.emit.map _).length=_;rw [lm9];omega
  erow:=fun i hi=>by
   rw [hE,lm9]
   have:=(f.row i (by omega)).2.1
   show _=if h.silent.getD i false then 0 else _
   split at this
   ·rename_i e;rw [if_pos e];omega
   ·rename_i e;rw [if_neg e];omega
  sill:=by show h.silent.length=_;omega
  ties:=by show h.ties.length=_;omega
  tie:=fun i hi=>by have:=(f.row i (by omega)).2.2.2.2;show 0≤h.ties.getD i 0∧h.ties.getD i 0<_;omega
  zE:=z.e.sz,zI:=z.i.small,zS:=z.s.small
  zT:=fun i=>by rw [hT];exact (mT i).small
  zM:=fun i=>by rw [hE];exact (mE i).small
  pE:=dt9 se.2,pI:=f.i.shares,pS:=f.s.shares
  pT:=fun i=>by rw [hT];exact (sT i).shares
  pM:=fun i=>by rw [hE];exact (sE i).shares }
theorem mem_ix {α:Type}{l:List α}{x:α}(d:α)(h:x ∈ l):∃ i,i<l.length∧x=l.getD i d:=by
 obtain ⟨i,hi,e⟩:=List.getElem_of_mem h
 exact ⟨i,hi,by rw [getD_lt hi];exact e.symm⟩
theorem RM.Fm.vHM {h:RM}(f:h.Fm)(g:h.Rng)(z:h.Sz):vRM h=Go.AL.vHM (hm h):=by
 obtain ⟨⟨g1,g2⟩,g3,g4⟩:=g
 have f5:=f.lt;have f6:=f.lm
 have e1:dRs h.ini=dQs (hm h).ini:=dRs_eq f.i z.i
 have e2:dRs h.stop=dQs (hm h).stop:=dRs_eq f.s z.s
 have e3:dRss h.trans=dQss (hm h).trans:=dRss_eq (fun x hx=>by obtain ⟨i,hi,rfl⟩:=mem_ix [] hx;exact (f.row i (by omega)).2.2.1) z.t
 have e4:dRss h.emit=dQss (hm h).emit:=dRss_eq (fun x hx=>by obtain ⟨i,hi,rfl⟩:=mem_ix [] hx;exact (f.row i (by omega)).2.2.2.1) z.m
 have se:=f.e
 unfold shareR at se
 rw [Bool.and_eq_true] at se
 have e5:ofQ (hm h).empty=h.empty:=ofQ_q z.e.ok se.1
 have e6:((hm h).sym:Int)=h.sym:=by show ((h.sym.toNat:Nat):Int)=_;omega
 have e7:((hm h).st:Int)=h.st:=by show ((h.st.toNat:Nat):Int)=_;omega
 unfold vRM Go.AL.vHM
 rw [e1,e2,e3,e4,e5,e6,e7]
 rfl
structure Dfs (h:HM) (s:List Int):Prop where
 len:s.length=h.st
 rng:∀ k,s.getD k 0=0 ∨ s.getD k 0=1 ∨ s.getD k 0=2
 two:∃ (r:Nat→Nat) (T:Nat),∀ k,k<h.st→s.getD k 0=2→r k<T∧∀ j,j<h.st→h.silent.getD j false=true→0<(h.trans.getD k []).getD j 0→s.getD j 0=2∧r j<r k
def Abv (h:HM)(s:List Int)(i:Nat):Prop:=∀ r,h.IsRank r→∀ k,k<h.st→s.getD k 0=1→r i<r k
structure Vis (h:HM) (s:List Int) (i:Nat) (s2:List Int) (ok:Bool):Prop where
 len:s2.length=h.st
 non:∀ k,s.getD k 0≠0→s2.getD k 0≠0
 good:ok=true→Dfs h s2∧(∀ k,s2.getD k 0=1 ↔ s.getD k 0=1)∧(∀ k,s.getD k 0=2→s2.getD k 0=2)∧(h.silent.getD i false=true→s2.getD i 0=2)
 bad:ok=false→¬ h.Ranked
structure Mid (h:HM) (s:List Int) (i:Nat) (s2:List Int) (j:Nat):Prop where
 dfs:Dfs h s2
 non:∀ k,s.getD k 0≠0→s2.getD k 0≠0
 one:∀ k,s2.getD k 0=1 ↔ k=i ∨ s.getD k 0=1
 two:∀ k,s.getD k 0=2→s2.getD k 0=2
 done:∀ q,q<j→q<h.st→h.silent.getD q false=true→0<(h.trans.getD i []).getD q 0→s2.getD q 0=2
def zers (h:HM)(s:List Int):Nat:=cnt (fun k=>s.getD k 0 == 0) h.st
theorem set_getD {α:Type}{l:List α}{i:Nat}{x d:α}(hi:i<l.length)(k:Nat):(l.set i x).getD k d=if k=i then x else l.getD k d:=by
 rw [gd9,List.getElem?_set]
 by_cases e:i=k
 ·subst e;rw [if_pos rfl,if_pos hi,if_pos rfl];rfl
 ·rw [if_neg e,if_neg (fun x=>e x.symm),gd9]
theorem zers_le {h:HM}{s s2:List Int}(hn:∀ k,s.getD k 0≠0→s2.getD k 0≠0):zers h s2≤zers h s :=
 cnt_le fun k _ hk=>by
  rw [beq_iff_eq] at hk ⊢
  exact Classical.byContradiction fun e=>hn k e hk
theorem zers_set {h:HM}{s:List Int}{i:Nat}(hl:s.length=h.st)(hi:i<h.st)(h0:s.getD i 0=0):zers h (s.set i 1)<zers h s:=by
 refine cnt_lt (fun k hk e=>?_) ⟨i,hi,?_,?_⟩
 ·rw [set_getD (by omega)] at e
  split at e
  ·cases e
  ·exact e
 ·rw [set_getD (by omega),if_pos rfl];rfl
 ·rw [h0];rfl
theorem Mid.zers {h:HM}{s s2:List Int}{i j:Nat}(m:Mid h s i s2 j)(h0:s.getD i 0=0)(hi:i<h.st):Go.AL.zers h s2<Go.AL.zers h s:=by
 refine cnt_lt (fun k _ hk=>?_) ⟨i,hi,?_,by rw [h0];rfl⟩
 ·rw [beq_iff_eq] at hk ⊢
  exact Classical.byContradiction fun e=>m.non k e hk
 ·rw [(m.one i).2 (.inl rfl)];rfl
theorem Mid.start {h:HM}{s:List Int}{i:Nat}(d:Dfs h s)(hi:i<h.st)(h0:s.getD i 0=0):Mid h s i (s.set i 1) 0:=by
 have hl:=d.len
 have e:∀ k,(s.set i 1).getD k 0=if k=i then 1 else s.getD k 0:=set_getD (by omega)
 refine ⟨⟨by rw [List.length_set];exact hl,fun k=>?_,?_⟩,fun k hk=>?_,fun k=>?_,fun k hk=>?_,fun q hq=>by omega⟩
 ·rw [e k];split
  ·exact .inr (.inl rfl)
  ·exact d.rng k
 ·obtain ⟨r,T,hr⟩:=d.two
  refine ⟨r,T,fun k hk h2=>?_⟩
  rw [e k] at h2
  split at h2
  ·cases h2
  ·obtain ⟨a,b⟩:=hr k hk h2
   refine ⟨a,fun j hj sj pj=>?_⟩
   obtain ⟨c1,c2⟩:=b j hj sj pj
   refine ⟨?_,c2⟩
   rw [e j,if_neg (fun x=>by rw [x,h0] at c1;cases c1)]
   exact c1
 ·rw [e k];split
  ·decide
  ·exact hk
 ·rw [e k];split
  ·rename_i x;simp [x]
  ·rename_i x;simp [x]
 ·rw [e k,if_neg (fun x=>by rw [x,h0] at hk;cases hk)];exact hk
theorem Mid.abv {h:HM}{s s2:List Int}{i j q:Nat}(m:Mid h s i s2 q)(ha:Abv h s i)(hi:i<h.st)(si:h.silent.getD i false=true)(hj:j<h.st)(sj:h.silent.getD j false=true)(hp:0<(h.trans.getD i []).getD j 0):Abv h s2 j:=fun r hr k hk h1=>by
 have h2:=hr i j hi hj si sj hp
 rcases (m.one k).1 h1 with rfl|h3
 ·exact h2
 ·exact Nat.lt_trans h2 (ha r hr k hk h3)
theorem Mid.step {h:HM}{s s2 s3:List Int}{i j:Nat}(m:Mid h s i s2 j)(v:Vis h s2 j s3 true):Mid h s i s3 (j+1):=by
 obtain ⟨d,o,t,w⟩:=v.good rfl
 refine ⟨d,fun k hk=>v.non k (m.non k hk),fun k=>(o k).trans (m.one k),fun k hk=>t k (m.two k hk),fun q hq hqs sq pq=>?_⟩
 rcases Nat.lt_or_ge q j with x|x
 ·exact t q (m.done q x hqs sq pq)
 ·obtain rfl:q=j:=by omega
  exact w sq
theorem Mid.skip {h:HM}{s s2:List Int}{i j:Nat}(m:Mid h s i s2 j)(hp:¬ 0<(h.trans.getD i []).getD j 0):Mid h s i s2 (j+1) :=
 ⟨m.dfs,m.non,m.one,m.two,fun q hq hqs sq pq=>by
  rcases Nat.lt_or_ge q j with x|x
  ·exact m.done q x hqs sq pq
  ·obtain rfl:q=j:=by omega
   exact absurd pq hp⟩
theorem Mid.fin {h:HM}{s s2:List Int}{i:Nat}(m:Mid h s i s2 h.st)(hi:i<h.st)(h0:s.getD i 0=0):Vis h s i (s2.set i 2) true:=by
 have hl:=m.dfs.len
 have e:∀ k,(s2.set i 2).getD k 0=if k=i then 2 else s2.getD k 0:=set_getD (by omega)
 refine ⟨by rw [List.length_set];exact hl,fun k hk=>?_,fun _=>⟨⟨by rw [List.length_set];exact hl,fun k=>?_,?_⟩,fun k=>?_,fun k hk=>?_,fun _=>?_⟩,fun x=>by cases x⟩
 ·rw [e k];split
  ·decide
  ·exact m.non k hk
 ·rw [e k];split
  ·exact .inr (.inr rfl)
  ·exact m.dfs.rng k
 ·obtain ⟨r,T,hr⟩:=m.dfs.two
  have i1:s2.getD i 0=1:=(m.one i).2 (.inl rfl)
  refine ⟨fun k=>if k=i then T else r k,T+1,fun k hk h2=>?_⟩
  rw [e k] at h2
  by_cases x:k=i
  ·subst x
   refine ⟨by simp,fun j hj sj pj=>?_⟩
   have hj2:=m.done j hj hj sj pj
   have hne:j≠k:=fun y=>by rw [y,i1] at hj2;cases hj2
   refine ⟨by rw [e j,if_neg hne];exact hj2,?_⟩
   simp only [if_neg hne,if_pos]
   exact (hr j hj hj2).1
  ·rw [if_neg x] at h2
   obtain ⟨a,b⟩:=hr k hk h2
   refine ⟨by simp only [if_neg x];omega,fun j hj sj pj=>?_⟩
   obtain ⟨c1,c2⟩:=b j hj sj pj
   have hne:j≠i:=fun y=>by rw [y,i1] at c1;cases c1
   exact ⟨by rw [e j,if_neg hne];exact c1,by simp only [if_neg hne,if_neg x];exact c2⟩
 ·rw [e k]
  by_cases x:k=i
  ·subst x
   rw [if_pos rfl,h0]
   exact ⟨fun y=>absurd y (by decide),fun y=>absurd y (by decide)⟩
  ·rw [if_neg x,m.one k]
   exact ⟨fun y=>y.resolve_left x,.inr⟩
 ·rw [e k];split
  ·rfl
  ·exact m.two k hk
 ·rw [e i,if_pos rfl]
theorem Vis.same {h:HM}{s:List Int}{i:Nat}{ok:Bool}(d:Dfs h s)(hg:ok=true→h.silent.getD i false=true→s.getD i 0=2)(hb:ok=false→¬ h.Ranked):Vis h s i s ok :=
 ⟨d.len,fun _ hk=>hk,fun e=>⟨d,fun _=>Iff.rfl,fun _ hk=>hk,hg e⟩,hb⟩
theorem Vis.fail {h:HM}{s s2 s3:List Int}{i j q:Nat}{ok ok2:Bool}(m:Mid h s i s2 q)(v:Vis h s2 j s3 ok)(e:ok=false)(e2:ok2=false):Vis h s i s3 ok2 :=
 ⟨v.len,fun k hk=>v.non k (m.non k hk),fun x=>(by rw [e2] at x;cases x),fun _=>v.bad e⟩
theorem zers_fin {h:HM}{s:List Int}{i:Nat}(hl:s.length=h.st)(hi:i<h.st):zers h (s.set i 2)≤zers h s:=zers_le fun k hk=>by
 rw [set_getD (by omega)];split
 ·decide
 ·exact hk
theorem Abv.bad {h:HM}{s:List Int}{i:Nat}(ha:Abv h s i)(hi:i<h.st)(h1:s.getD i 0=1):¬ h.Ranked:=fun ⟨r,hr⟩=>Nat.lt_irrefl _ (ha r hr i hi h1)
theorem Dfs.zero (h:HM):Dfs h (List.replicate h.st 0):=⟨List.length_replicate,fun k=>.inl (by rw [gd9,List.getElem?_replicate];split <;> rfl),⟨fun _=>0,0,fun k _ h2=>by
 rw [gd9,List.getElem?_replicate] at h2
 split at h2 <;> cases h2⟩⟩
theorem Dfs.ranked {h:HM}{s:List Int}(d:Dfs h s)(ha:∀ k,k<h.st→h.silent.getD k false=true→s.getD k 0=2):h.Ranked:=by
 obtain ⟨r,T,hr⟩:=d.two
 exact ⟨r,fun i j hi hj si sj pj=>((hr i hi (ha i hi si)).2 j hj sj pj).2⟩
end Go.AL

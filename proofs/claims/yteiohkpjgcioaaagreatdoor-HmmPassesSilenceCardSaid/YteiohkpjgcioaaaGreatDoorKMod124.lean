/-
  M, chapter 33: models out of plain numbers some of whose states are silent.
-/
import Derived.Test.YteiohkpjgcioaaaGreatDoorKMod123
set_option linter.unusedVariables false
set_option linter.unusedSimpArgs false
namespace Go.AL
open Go Go.BigFrame
def IA (l:List Rat)(st:Nat):Nat->Rat
 | 0=>l.getD st 0
 | j+1=>IA l st j+l.getD j 0
def EJ (l:List Rat)(st j:Nat):List Rat:=(List.range (st+1)).map λq=>if q=st then IA l st j else if q<j then 0 else l.getD q 0
def Po (L:List Int)(emits:List (List Rat))(sil:List Bool)(ties:List Int)(e:List Rat)(s:Bool)(i:Nat):Nat->Nat->Nat->Int->Int × Nat
 | 0,_,a,t=>(t,a)
 | f+1,j,a,t=>if jE L a 3=0 then Po L emits sil ties e s i f (j+1) (MH L a) (if s=false/\sil.getD j false=false/\emits.getD j []=e then ties.getD j 0 else t) else (t,MH L a)
structure MX where
 trans:List (List Rat)
 stop:List Rat
 sil:List Bool
 emit:List (List Rat)
 ties:List Int
 a:Nat
def C9 (L:List Int)(m:MX):Bool:=decide (jE L m.a 3=0)
def Es (L:List Int)(st:Nat)(m:MX):List Rat:=shares L (st+1) (MH L m.a)
def GX (L:List Int)(st i:Nat)(m:MX):List Rat:=if C9 L m=true then EJ (Es L st m) st (i+1) else Es L st m
def ag8 (L:List Int)(st:Nat)(m:MX):Nat:=WN L (st+1) (MH L m.a)
def Et (L:List Int)(st sym:Nat)(m:MX):List Rat:=if C9 L m=true then [] else shares L sym (ag8 L st m)
def TU (L:List Int)(st sym:Nat)(m:MX):Nat:=if C9 L m=true then ag8 L st m else WN L sym (ag8 L st m)
def Pq (L:List Int)(st sym i:Nat)(m:MX):Int × Nat:=Po L (m.emit++[Et L st sym m]) (m.sil++[C9 L m]) m.ties (Et L st sym m) (C9 L m) i i 0 (TU L st sym m) i
def Wx (L:List Int)(st sym:Nat):Nat->Nat->MX
 | 0,a=>⟨[],[],[],[],[],a⟩
 | i + 1, a => ⟨(Wx L st sym i a).trans ++ [(GX L st i (Wx L st sym i a)).take st], (Wx L st sym i a).stop ++ [(GX L st i (Wx L st sym i a)).getD st 0], (Wx L st sym i a).sil ++ [C9 L (Wx L st sym i a)], (Wx L st sym i a).emit ++ [Et L st sym (Wx L st sym i a)],
   (Wx L st sym i a).ties++[(Pq L st sym i (Wx L st sym i a)).1],(Pq L st sym i (Wx L st sym i a)).2⟩
def bf (L:List Int)(st sym i:Nat):MX:=Wx L st sym i (WN L (st+1) 0)
def kQ (L:List Int)(cs cy most:Int):HM :=
 ⟨aO cy,aJ cs most,(ou L (aJ cs most)).getD (aJ cs most) 0,(ou L (aJ cs most)).take (aJ cs most),(bf L (aJ cs most) (aO cy) (aJ cs most)).trans,(bf L (aJ cs most) (aO cy) (aJ cs most)).stop,
  (bf L (aJ cs most) (aO cy) (aJ cs most)).emit,(bf L (aJ cs most) (aO cy) (aJ cs most)).sil,(bf L (aJ cs most) (aO cy) (aJ cs most)).ties⟩
section
variable {L:List Int}{st sym i j q n:Nat}{l:List Rat}{e:List Rat}
theorem o7:(EJ l st j).length=st+1:=by simp[EJ]
theorem ug (hq:q<=st):(EJ l st j).getD q 0=if q=st then IA l st j else if q<j then 0 else l.getD q 0:=dM _ _ (by omega)
theorem ZF (hl:iY l):∀ j,0<=IA l st j
 | 0=>(hl.get st).1
 | j+1=>Rat.add_nonneg (ZF hl j) (hl.get j).1
theorem TV (hz:Small 1 l):∀ j,sz (IA l st j)<=1+2*j
 | 0=>hz.get (Nat.le_refl _) st
 | j+1=>by
  have h1:=TV hz j;have h2:=vz (IA l st j) (l.getD j 0);have h3:=hz.get (Nat.le_refl 1) j;show sz (IA l st j+l.getD j 0)<=_
  omega
theorem ZG (hl:l.length=st+1)(hj:j<=st):iG (EJ l st j)=iG l:=by
 have key:∀ k,k<=st->IA l st k+dw (λq=>if q<k then 0 else l.getD q 0) st=l.getD st 0+dw (λq=>l.getD q 0) st:=λk=>by
  induction k with
  | zero =>
   intro _;rw[IA];congr 1
  | succ k ih =>
   intro hk;rw[<- ih (by omega),IA,JL (f:=λq=>if q<k then 0 else l.getD q 0) (show k<st by omega),if_neg (by omega),Rat.add_assoc]
   congr 2;refine dZ λq _=>?_;by_cases e1:q=k
   .rw[if_pos (by omega),if_pos e1]
   .rw[if_neg e1];by_cases e2:q<k
    .rw[if_pos (by omega),if_pos e2]
    .rw[if_neg (by omega),if_neg e2]
 have e1:iG (EJ l st j)=dw (λq=>(EJ l st j).getD q 0) (st+1):=(JM o7).symm;have e2:iG l=dw (λq=>l.getD q 0) (st+1):=(JM hl).symm;rw[e1,e2,dw,dw,ug (Nat.le_refl _),if_pos rfl];have e3:dw (λq=>(EJ l st j).getD q 0) st=dw (λq=>if q<j then 0 else l.getD q 0) st:=dZ λq hq=>by rw[ug (by omega),if_neg (by omega)]
 rw[e3,Rat.add_comm,key j hj,Rat.add_comm]
theorem ax8 {l:List Rat}(nn:∀ i,0<=l.getD i 0)(hs:iG l=1):iY l:=λx hx=>by
 obtain⟨i,hi,rfl⟩:=BU hx 0;refine⟨nn i,?_⟩;rw[<- JM (l:=l) rfl,JL (f:=λq=>l.getD q 0) hi] at hs;rw[<- hs];refine TJ (MO (λk=>?_) _)
 split
 .exact Rat.le_refl
 .exact nn k
theorem Yj (hl:l.length=st+1)(hs:iY l)(hsum:iG l=1)(hj:j<=st):iY (EJ l st j):=by
 refine ax8 (λi=>?_) (by rw[ZG hl hj];exact hsum)
 rcases Nat.lt_or_ge i (st+1) with hi|hi
 .rw[ug (by omega)]
  split
  .exact ZF hs j
  .split
   .exact Rat.le_refl
   .exact (hs.get i).1
 .rw[vF (by rw[o7];exact hi)];exact Rat.le_refl
theorem cut_small (hz:Small 1 l)(hj:j<=n):Small (1+2*n) (EJ l st j):=λx hx=>by
 obtain⟨i,hi,rfl⟩:=BU hx 0;rw[o7] at hi;rw[ug (by omega)]
 split
 .have:=TV (st:=st) hz j;omega
 .split
  .rw[gJ];omega
  .have:=hz.get (Nat.le_refl 1) i;omega
def H7 (sil:List Bool)(emits:List (List Rat))(i:Nat)(e:List Rat)(t:Int):Prop:=t=i \/ (0<=t/\t<i/\sil.getD t.toNat false=false/\emits.getD t.toNat []=e)
theorem ZH {emits:List (List Rat)}{sil:List Bool}{ties:List Int}{s:Bool}(ht:∀ j,j<i->sil.getD j false=false->0<=ties.getD j 0/\ties.getD j 0<=j/\sil.getD (ties.getD j 0).toNat false=false/\emits.getD j []=emits.getD (ties.getD j 0).toNat []) :
  ∀ (f j a:Nat) (t:Int),j+f=i->H7 sil emits i e t->(s=true->t=i)->H7 sil emits i e (Po L emits sil ties e s i f j a t).1/\(s=true->(Po L emits sil ties e s i f j a t).1=i)
 | 0,_,_,_,_,h,k=>⟨h,k⟩
 | f + 1, j, a, t, hj, h, k => by
  rw[Po]
  split
  .refine ZH ht f (j+1) (MH L a) _ (by omega) ?_ (λhs=>?_)
   .split
    .rename_i he;obtain⟨h1,h2,h3,h4⟩:=ht j (by omega) he.2.1
     exact .inr ⟨h1,by omega,h3,by rw[<- h4];exact he.2.2⟩
    .exact h
   .rw[if_neg (λc=>by rw[hs] at c;cases c.1)];exact k hs
  .exact⟨h,k⟩
theorem ZI {emits:List (List Rat)}{sil:List Bool}{ties:List Int}{s:Bool}:∀ (f j a:Nat) (t:Int),a<=L.length->(Po L emits sil ties e s i f j a t).2<=L.length
 | 0,_,_,_,h=>h
 | f+1,j,a,t,h=>by
  rw[Po]
  split
  .exact ZI f (j+1) (MH L a) _ (NI h)
  .exact NI h
structure MX.OK (L:List Int) (st sym i:Nat) (m:MX):Prop where
 lt:m.trans.length=i
 ls:m.stop.length=i
 lq:m.sil.length=i
 le:m.emit.length=i
 ll:m.ties.length=i
 rowT:∀ j,j<i->(m.trans.getD j []).length=st/\iY (m.trans.getD j [])/\Small (1+2*st) (m.trans.getD j [])/\sN (m.stop.getD j 0)/\sz (m.stop.getD j 0)<=1+2*st/\iG (m.trans.getD j []++[m.stop.getD j 0])=1
 fwd:∀ j,j<i->m.sil.getD j false=true->∀ k,k<=j->(m.trans.getD j []).getD k 0=0
 UL:∀ j,j<i->(m.emit.getD j []).length=(if m.sil.getD j false then 0 else sym)/\iY (m.emit.getD j [])/\Small 1 (m.emit.getD j [])/\(m.sil.getD j false=false->iG (m.emit.getD j [])=1)
 tie:∀ j,j<i->m.sil.getD j false=false->0<=m.ties.getD j 0/\m.ties.getD j 0<=j/\m.sil.getD (m.ties.getD j 0).toNat false=false/\m.emit.getD j []=m.emit.getD (m.ties.getD j 0).toNat []
 tiS:∀ j,j<i->0<=m.ties.getD j 0/\m.ties.getD j 0<=j
 a:m.a<=L.length
theorem Yk (h1:1<=st/\st<=1000)(h2:1<=sym/\sym<=1000){a:Nat}(ha:a<=L.length):∀ i,i<=st->(Wx L st sym i a).OK L st sym i
 | 0,_=>⟨rfl,rfl,rfl,rfl,rfl,λj h=>by omega,λj h=>by omega,λj h=>by omega,λj h=>by omega,λj h=>by omega,ha⟩
 | i + 1, hi => by
  have ih:=Yk h1 h2 ha i (by omega)
  generalize hm:Wx L st sym i a=m at ih;have l0:(Es L st m).length=st+1:=jd ..;have s0:=Dt L (st+1) (MH L m.a) (by omega)
  have z0:=rQ L (st+1) (MH L m.a) (by omega) (by omega)
  have u0:=Ih L (st+1) (MH L m.a) (by omega)
  have hl:(GX L st i m).length=st+1:=by unfold GX;split;exact o7;exact l0
  have hs:iY (GX L st i m):=by unfold GX;split;exact Yj l0 s0 u0 (by omega);exact s0
  have hz:Small (1+2*st) (GX L st i m):=by unfold GX;split;exact cut_small z0 (by omega);exact Small.mono z0 (by omega)
  have hsum:iG (GX L st i m)=1:=by unfold GX;split;(rw[ZG l0 (by omega)];exact u0);exact u0
  have a0:=NI ih.a;have a1:ag8 L st m<=L.length:=RV (st+1) a0;have a2:TU L st sym m<=L.length:=by unfold TU;split;exact a1;exact RV sym a1
  have eS:∀ j,j<i->(m.sil++[C9 L m]).getD j false=m.sil.getD j false:=λj hj=>mM (by rw[ih.lq];exact hj)
  have eE:∀ j,j<i->(m.emit++[Et L st sym m]).getD j []=m.emit.getD j []:=λj hj=>mM (by rw[ih.le];exact hj)
  have eN:(m.sil++[C9 L m]).getD i false=C9 L m:=mO ih.lq.symm;have eM:(m.emit++[Et L st sym m]).getD i []=Et L st sym m:=mO ih.le.symm;have htie:=ZH (L:=L) (e:=Et L st sym m) (i:=i) (emits:=m.emit++[Et L st sym m]) (sil:=m.sil++[C9 L m]) (ties:=m.ties) (s:=C9 L m) (λj hj hsj=>by
   rw[eS j hj] at hsj;obtain⟨t1,t2,t3,t4⟩:=ih.tie j hj hsj;rw[eS _ (by omega),eE _ hj,eE _ (by omega)]
   exact⟨t1,t2,t3,t4⟩) i 0 (TU L st sym m) i (by omega) (.inl rfl) (λ_=>rfl)
  have hta:=ZI (L:=L) (emits:=m.emit++[Et L st sym m]) (sil:=m.sil++[C9 L m]) (ties:=m.ties) (e:=Et L st sym m) (s:=C9 L m) (i:=i) i 0 (TU L st sym m) i a2;have step:Wx L st sym (i+1) a=⟨m.trans++[(GX L st i m).take st],m.stop++[(GX L st i m).getD st 0],m.sil++[C9 L m],m.emit++[Et L st sym m],m.ties++[(Pq L st sym i m).1],(Pq L st sym i m).2⟩:=by rw[Wx,hm]
  rw[step];have tT:∀ j,j<i->(m.trans++[(GX L st i m).take st]).getD j []=m.trans.getD j []:=λj hj=>mM (by rw[ih.lt];exact hj)
  have tS:∀ j,j<i->(m.stop++[(GX L st i m).getD st 0]).getD j 0=m.stop.getD j 0:=λj hj=>mM (by rw[ih.ls];exact hj)
  have tI:∀ j,j<i->(m.ties++[(Pq L st sym i m).1]).getD j 0=m.ties.getD j 0:=λj hj=>mM (by rw[ih.ll];exact hj)
  have nI:(m.ties++[(Pq L st sym i m).1]).getD i 0=(Pq L st sym i m).1:=mO ih.ll.symm;refine⟨by simp[ih.lt],by simp[ih.ls],by simp[ih.lq],by simp[ih.le],by simp[ih.ll],λj hj=>?_,λj hj hsj k hk=>?_,λj hj=>?_,λj hj hsj=>?_,λj hj=>?_,hta⟩
  .show ((m.trans++[(GX L st i m).take st]).getD j []).length=st/\iY ((m.trans++[(GX L st i m).take st]).getD j [])/\Small (1+2*st) ((m.trans++[(GX L st i m).take st]).getD j [])/\sN ((m.stop++[(GX L st i m).getD st 0]).getD j 0)/\sz ((m.stop++[(GX L st i m).getD st 0]).getD j 0)<=1+2*st/\iG ((m.trans++[(GX L st i m).take st]).getD j []++[(m.stop++[(GX L st i m).getD st 0]).getD j 0])=1
   by_cases hji:j<i
   .rw[tT j hji,tS j hji];exact ih.rowT j hji
   .obtain rfl:j=i:=by omega
    rw[mO ih.lt.symm,mO ih.ls.symm];refine⟨take_len (by omega),λq hq=>hs q (List.mem_of_mem_take hq),λq hq=>hz q (List.mem_of_mem_take hq),hs.get st,hz.get (by omega) st,?_⟩
    rw[NM hl];exact hsum
  .show ((m.trans++[(GX L st i m).take st]).getD j []).getD k 0=0
   change (m.sil++[C9 L m]).getD j false=true at hsj;by_cases hji:j<i
   .rw[eS j hji] at hsj;rw[tT j hji];exact ih.fwd j hji hsj k hk
   .obtain rfl:j=i:=by omega
    rw[eN] at hsj;rw[mO ih.lt.symm];have e:((GX L st j m).take st).getD k 0=(GX L st j m).getD k 0:=by
     rw[iZ,List.getElem?_take,if_pos (by omega),<- iZ]
    rw[e];unfold GX;rw[if_pos hsj,ug (by omega),if_neg (by omega),if_pos (by omega)]
  .show ((m.emit++[Et L st sym m]).getD j []).length=(if (m.sil++[C9 L m]).getD j false then 0 else sym)/\iY ((m.emit++[Et L st sym m]).getD j [])/\Small 1 ((m.emit++[Et L st sym m]).getD j [])/\((m.sil++[C9 L m]).getD j false=false->iG ((m.emit++[Et L st sym m]).getD j [])=1)
   by_cases hji:j<i
   .rw[eS j hji,eE j hji];exact ih.UL j hji
   .obtain rfl:j=i:=by omega
    rw[eN,eM];unfold Et;cases hq:C9 L m with
    | true=>rw[if_pos rfl,if_pos rfl];exact⟨rfl,λq hq=>(by cases hq),Small.nil,λc=>(by cases c)⟩
    | false =>
     rw[if_neg (by decide),if_neg (by decide)]
     exact⟨jd ..,Dt _ _ _ (by omega),rQ _ _ _ (by omega) (by omega),λ_=>Ih _ _ _ (by omega)⟩
  .show 0<=(m.ties++[(Pq L st sym i m).1]).getD j 0/\(m.ties++[(Pq L st sym i m).1]).getD j 0<=j/\(m.sil++[C9 L m]).getD ((m.ties++[(Pq L st sym i m).1]).getD j 0).toNat false=false/\(m.emit++[Et L st sym m]).getD j []=(m.emit++[Et L st sym m]).getD ((m.ties++[(Pq L st sym i m).1]).getD j 0).toNat []
   change (m.sil++[C9 L m]).getD j false=false at hsj;by_cases hji:j<i
   .rw[eS j hji] at hsj;obtain⟨t1,t2,t3,t4⟩:=ih.tie j hji hsj;rw[tI j hji,eS _ (by omega),eE j hji,eE _ (by omega)]
    exact⟨t1,t2,t3,t4⟩
   .obtain rfl:j=i:=by omega
    rw[nI];have e1:H7 (m.sil++[C9 L m]) (m.emit++[Et L st sym m]) j (Et L st sym m) (Pq L st sym j m).1:=htie.1;rw[eM];rcases e1 with t|⟨t1,t2,t3,t4⟩
    .rw[t,Int.toNat_natCast];exact⟨by omega,by omega,hsj,eM.symm⟩
    .exact⟨t1,by omega,t3,t4.symm⟩
  .show 0<=(m.ties++[(Pq L st sym i m).1]).getD j 0/\(m.ties++[(Pq L st sym i m).1]).getD j 0<=j
   by_cases hji:j<i
   .rw[tI j hji];exact ih.tiS j hji
   .obtain rfl:j=i:=by omega
    rw[nI];have e1:H7 (m.sil++[C9 L m]) (m.emit++[Et L st sym m]) j (Et L st sym m) (Pq L st sym j m).1:=htie.1;rcases e1 with t|⟨t1,t2,_,_⟩
    .rw[t];exact⟨by omega,by omega⟩
    .exact⟨t1,by omega⟩
end
section
variable {L:List Int}{cs cy most:Int}
theorem TW (h:1<=most/\most<=12):(bf L (aJ cs most) (aO cy) (aJ cs most)).OK L (aJ cs most) (aO cy) (aJ cs most):=by
 obtain⟨s1,s2,_⟩:=zX (cs:=cs) h;obtain⟨y1,y2,_⟩:=yg cy;exact Yk ⟨s1,by omega⟩ ⟨y1,by omega⟩ (RV (aJ cs most+1) (Nat.zero_le _)) _ (Nat.le_refl _)
theorem Wy (h:1<=most/\most<=12):(kQ L cs cy most).oh/\(kQ L cs cy most).Me/\(kQ L cs cy most).PZ:=by
 obtain⟨s1,s2,_⟩:=zX (cs:=cs) h;obtain⟨y1,y2,_⟩:=yg cy;have hm:=TW (L:=L) (cs:=cs) (cy:=cy) h;have hl:(ou L (aJ cs most)).length=aJ cs most+1:=jd ..;have hs:=Dt L (aJ cs most+1) 0 (by omega)
 have hz:=rQ L (aJ cs most+1) 0 (by omega) (by omega)
 have hsum:=Ih L (aJ cs most+1) 0 (by omega)
 have out:∀ (l:List (List Rat)) (i:Nat),¬ i<l.length->l.getD i []=[]:=λl i hi=>vF (by omega)
 refine⟨⟨y1,by show aO cy<=32;omega,s1,by show aJ cs most<=12;omega,take_len (by omega),hm.lt,λi hi=>(hm.rowT i hi).1,hm.ls,hm.le,λi hi=>(hm.UL i hi).1,hm.lq,hm.ll,λi hi=>?_,Nat.le_trans (hz _ (getD_mem (by rw[jd];omega) _)) (by decide),λq hq=>Nat.le_trans (hz q (List.mem_of_mem_take hq)) (by decide),λq hq=>?_,λi=>?_,λi=>?_,
  hs _ (getD_mem (by rw[jd];omega) _),λq hq=>hs q (List.mem_of_mem_take hq),λq hq=>?_,λi=>?_,λi=>?_⟩,⟨?_,λi hi=>(hm.rowT i hi).2.2.2.2.2,λi hi hsi=>(hm.UL i hi).2.2.2 hsi⟩,λi j hi hj hsi hsj ht=>?_⟩
 .obtain⟨t1,t2⟩:=hm.tiS i hi;have hi2:i<aJ cs most:=hi;refine⟨t1,?_⟩;show (bf L (aJ cs most) (aO cy) (aJ cs most)).ties.getD i 0<((aJ cs most:Nat):Int)
  omega
 .obtain⟨i,hi,rfl⟩:=BU hq 0;exact Nat.le_trans (hm.rowT i (by rw[<- hm.ls];exact hi)).2.2.2.2.1 (by omega)
 .show Small 1048576 ((bf L (aJ cs most) (aO cy) (aJ cs most)).trans.getD i [])
  by_cases hi:i<aJ cs most
  .exact (hm.rowT i hi).2.2.1.mono (by omega)
  .rw[out _ _ (by rw[hm.lt];exact hi)];exact Small.nil
 .show Small 1048576 ((bf L (aJ cs most) (aO cy) (aJ cs most)).emit.getD i [])
  by_cases hi:i<aJ cs most
  .exact (hm.UL i hi).2.2.1.mono (by decide)
  .rw[out _ _ (by rw[hm.le];exact hi)];exact Small.nil
 .obtain⟨i,hi,rfl⟩:=BU hq 0;exact (hm.rowT i (by rw[<- hm.ls];exact hi)).2.2.2.1
 .show iY ((bf L (aJ cs most) (aO cy) (aJ cs most)).trans.getD i [])
  by_cases hi:i<aJ cs most
  .exact (hm.rowT i hi).2.1
  .rw[out _ _ (by rw[hm.lt];exact hi)];intro q hq;cases hq
 .show iY ((bf L (aJ cs most) (aO cy) (aJ cs most)).emit.getD i [])
  by_cases hi:i<aJ cs most
  .exact (hm.UL i hi).2.1
  .rw[out _ _ (by rw[hm.le];exact hi)];intro q hq;cases hq
 .show iG ((ou L (aJ cs most)).take (aJ cs most)++[(ou L (aJ cs most)).getD (aJ cs most) 0])=1
  rw[NM hl];exact hsum
 .have hi':i<aJ cs most:=hi;obtain⟨_,_,_,b1⟩:=hm.tie i hi' hsi;obtain⟨_,_,_,b2⟩:=hm.tie j (by omega) hsj
  show (bf L (aJ cs most) (aO cy) (aJ cs most)).emit.getD i []=(bf L (aJ cs most) (aO cy) (aJ cs most)).emit.getD j []
  rw[b1,b2];exact congrArg (λt:Int=>(bf L (aJ cs most) (aO cy) (aJ cs most)).emit.getD t.toNat []) ht
def CY (h:HM):List Nat:=(List.range h.st).filter λi=>h.silent.getD i false
theorem ax9 {h:HM}(hf:∀ j,j<h.st->h.silent.getD j false=true->∀ k,k<=j->Hw h j k=0):He h (CY h):=by
 refine⟨λk=>by unfold CY;rw[List.mem_filter,List.mem_range],λu i v e k hk=>?_,by unfold CY;exact Nat.le_trans (List.length_filter_le ..) (by rw[List.length_range];exact Nat.le_refl _)⟩
 have hp:(CY h).Pairwise (· < ·):=List.Pairwise.filter _ (List.pairwise_lt_range)
 have hi:i<h.st/\h.silent.getD i false=true:=by
  have:i ∈ CY h:=by rw[e];simp
  unfold CY at this
  rwa [List.mem_filter,List.mem_range] at this
 refine hf i hi.1 hi.2 k ?_;rcases hk with hk|hk
 .rw[e,List.pairwise_append] at hp;exact Nat.le_of_lt (hp.2.2 k hk i yD)
 .omega
theorem ZJ (h:1<=most/\most<=12):He (kQ L cs cy most) (CY (kQ L cs cy most)):=ax9 (TW h).fwd
theorem Yl (h:1<=most/\most<=12):(kQ L cs cy most).ql:=by
 refine⟨λi=>(kQ L cs cy most).st-i,λi j hi hj si sj hp=>?_⟩;rcases Nat.lt_or_ge i j with c|c
 .show (kQ L cs cy most).st-j<(kQ L cs cy most).st-i
  omega
 .have:=(TW (L:=L) (cs:=cs) (cy:=cy) h).fwd i hi si j c;rw[show ((kQ L cs cy most).trans.getD i []).getD j 0=0 from this] at hp
  exact absurd hp (Rat.lt_irrefl)

/-
  M, chapter 23: how a rank is counted; sizes of the machines of automata.
-/
import Derived.Test.YtanlenlmihoiiaaGreatDoorKMod83
set_option linter.unusedVariables false
set_option linter.unusedSimpArgs false
namespace Go.AL
open Go Go.BigFrame
structure bQ.Full (m:bQ):Prop where
 rows:∀ s,s<m.k->(m.gV.getD s []).length=m.n
 cols:∀ s,s<m.k->∀ i,i<m.n->((m.gV.getD s []).getD i []).length=m.n
theorem aa2 {n:Nat}{f:Nat->Nat->Rat}:(EH n f).length=n:=by simp[EH]
theorem aa3 {n i:Nat}{f:Nat->Nat->Rat}(hi:i<n):((EH n f).getD i []).length=n:=by
 unfold EH;rw[aO _ _ hi];simp
theorem Il (l:List Au):(ah l).Full :=
 ⟨λs hs=>by
  rw[wL] at hs;show (((List.range _).map λs=>EH (aK l) (mW l s)).getD s []).length=_
  rw[aO _ _ hs,aa2];rfl,λs hs i hi=>by
  rw[wL] at hs;show ((((List.range _).map λs=>EH (aK l) (mW l s)).getD s []).getD i []).length=_
  rw[aO _ _ hs,aa3 (n:=aK l) hi];rfl⟩
theorem OZ {m:bQ}{s:Nat}(hs:s<m.k):(aU m).gV.getD s []=EH m.n λi j=>((m.gV.getD s []).getD j []).getD i 0:=by
 unfold aU;show (m.gV.map λM=>EH m.n λi j=>(M.getD j []).getD i 0).getD s []=_
 rw[iO,List.getElem?_map,lF hs,iO,lF hs];rfl
theorem KI (m:bQ):(aU m).Full :=
 ⟨λs hs=>by rw[lg] at hs;rw[OZ hs,aa2];rfl,λs hs i hi=>by rw[lg] at hs;rw[OZ hs,aa3 (n:=m.n) hi];rfl⟩
structure qU (n B:Nat) (rs:List dh):Prop where
 ech:MI n rs
 sz:MJ B rs
 len:∀ r,r ∈ rs->r.v.length=n
 cl:∀ (k:Nat) (r:dh),rs[k]? = some r->r.c.length=k+1
section
variable {n B:Nat}{rs:List dh}{w:List Rat}
theorem qU.nil:qU n B []:=⟨⟨λ_ h=>(by cases h),List.Pairwise.nil⟩,MJ.nil,λ_ h=>(by cases h),λ_ _ h=>(by cases h)⟩
theorem qU.grow (h:qU n B rs)(hw:w.length=n)(h1:1<=B)(hz:∀ i,AL.sz (w.getD i 0)<=B)(g:bW rs w=true):qU n B (rs++[newR rs w]):=by
 have hp:eU (bC rs w)<(bC rs w).length:=mX g;refine⟨h.ech.grow hw _ (by rw[mD,hw] at hp;exact hp) (vH hp),h.sz.grow h1 hz,λr hr=>?_,λk r hk=>?_⟩
 .rcases ru hr with hr|hr
  .exact h.len r hr
  .rw[lV hr];show (bC rs w).length=n;rw[mD,hw]
 .rcases Nat.lt_or_ge k rs.length with hi|hi
  .rw[List.getElem?_append_left hi] at hk;exact h.cl k r hk
  .rw[List.getElem?_append_right hi] at hk;rcases Nat.eq_zero_or_pos (k-rs.length) with h0|h0
   .rw[h0] at hk;cases hk
    show (Nh rs w).length=k+1
    rw[TP];omega
   .rw[List.getElem?_eq_none (by rw[kC];exact h0)] at hk;cases hk
theorem qU.add (h:qU n B rs)(hw:w.length=n)(h1:1<=B)(hz:∀ i,AL.sz (w.getD i 0)<=B):qU n B (tq rs w):=by
 unfold tq
 split
 .exact h.grow hw h1 hz ‹_›
 .exact h
theorem qU.le (h:qU n B rs):rs.length<=n:=h.ech.len
end
structure DSt where
 o:Option (List Int)
 rs:List dh
def keepD (m:bQ)(w:List Int)(y:DSt):Bool × DSt :=
 if y.o.isSome=true then (false,y) else if kU m w≠0 then (false,⟨some w,y.rs⟩) else (bW y.rs (aZ m w),⟨none,tq y.rs (aZ m w)⟩)
def bC2 (m:bQ)(Q:List (List Int))(y:DSt):Prop :=
 match y.o with
 | some w=>yZ m w/\w.length<=6
 | none=>∃ V K,Join m V K Q y.rs/\Fz m K/\BI K Q
structure Qj (m:bQ) (B:Nat) (Q:List (List Int)) (y:DSt):Prop where
 len:∀ q,q ∈ Q->q.length<=6
 sp:qU m.n B y.rs
 ans:bC2 m Q y
def muD (m:bQ)(Q:List (List Int))(y:DSt):Nat :=
 match y.o with
 | some _=>Q.length
 | none=>jM m Q y.rs
section
variable {m:bQ}{B:Nat}{Q V K:List (List Int)}{w:List Int}{y:DSt}{rs:List dh}
theorem BI.six (h:BI K Q)(j:Join m V K Q rs)(n6:m.n<=6):∀ q,q ∈ Q->q.length<=6:=λq hq=>by
 have:=h.open_ q hq;have:=j.len;have:=j.le;omega
theorem Qj.start (m:bQ)(B:Nat):Qj m B [[]] ⟨none,[]⟩:=
 ⟨λq hq=>by rw[lV hq];exact Nat.zero_le _,qU.nil,[],[],Join.start m,λ_ h=>(by cases h),BI.start⟩
theorem Qj.next (ok:m.Ok)(n6:m.n<=6)(h1:1<=B)(hz:∀ i,sz ((aZ m w).getD i 0)<=B)(h:Qj m B (w::Q) y) :
  ((keepD m w y).1=true->Qj m B (Q++dD m.k w) (keepD m w y).2/\muD m (Q++dD m.k w) (keepD m w y).2<muD m (w::Q) y)/\((keepD m w y).1=false->Qj m B Q (keepD m w y).2/\muD m Q (keepD m w y).2<muD m (w::Q) y):=by
 obtain⟨o,rs⟩:=y;have hlq:∀ q,q ∈ Q->q.length<=6:=λq hq=>h.len q (List.mem_cons_of_mem _ hq);cases o with
 | some u =>
  have e:keepD m w ⟨some u,rs⟩ = (false,⟨some u,rs⟩):=if_pos rfl;rw[e];exact⟨λx=>(by cases x),λ_=>⟨⟨hlq,h.sp,h.ans⟩,Nat.lt_succ_self _⟩⟩
 | none =>
  obtain⟨V,K,j,hzk,hl⟩:∃ V K,Join m V K (w::Q) rs/\Fz m K/\BI K (w::Q):=h.ans;have hsp:qU m.n B rs:=h.sp;have hno:¬ ((⟨none,rs⟩:DSt).o.isSome=true):=λx=>by cases x
  by_cases hw:kU m w≠0
  .have e:keepD m w ⟨none,rs⟩ = (false,⟨some w,rs⟩):=by unfold keepD;rw[if_neg hno,if_pos hw]
   rw[e];refine⟨λx=>(by cases x),λ_=>⟨⟨hlq,hsp,j.EO.first hzk hw,h.len w rY⟩,?_⟩⟩
   show Q.length<jM m (w::Q) rs
   unfold jM;rw[List.length_cons];omega
  .have e:keepD m w ⟨none,rs⟩ = (bW rs (aZ m w),⟨none,tq rs (aZ m w)⟩):=by unfold keepD;rw[if_neg hno,if_neg hw]
   rw[e];have hadd:=hsp.add (lu ok w) h1 hz;have hw0:kU m w=0:=Decidable.byContradiction hw;refine⟨λhg=>?_,λhg=>?_⟩
   .have hg:bW rs (aZ m w)=true:=hg;show Qj m B (Q++dD m.k w) ⟨none,tq rs (aZ m w)⟩ /\ jM m (Q++dD m.k w) (tq rs (aZ m w))<jM m (w::Q) rs
    rw[show tq rs (aZ m w)=rs++[newR rs (aZ m w)] from if_pos hg] at hadd ⊢
    have j2:=j.keep ok hg;have hl2:BI (K++[w]) (Q++dD m.k w):=hl.keep;exact⟨⟨hl2.six j2 n6,hadd,_,_,j2,hzk.add hw0,hl2⟩,CP ok j hg⟩
   .have hg:bW rs (aZ m w)=false:=hg;show Qj m B Q ⟨none,tq rs (aZ m w)⟩ /\ jM m Q (tq rs (aZ m w))<jM m (w::Q) rs
    rw[show tq rs (aZ m w)=rs from if_neg (by rw[hg];exact Bool.false_ne_true)] at hadd ⊢
    exact⟨⟨hlq,hsp,_,_,j.drop ok hg,hzk,hl.drop⟩,vI⟩
theorem Qj.done (h:Qj m B [] y):y.o=tu m:=by
 obtain⟨o,rs⟩:=y;cases o with
 | some u=>exact (Eo (o:=some u) h.ans.1).symm
 | none =>
  obtain⟨V,K,j,hzk,_⟩:∃ V K,Join m V K [] rs/\Fz m K/\BI K []:=h.ans;exact (Eo (o:=none) λw hw=>j.EO.none hzk w hw).symm
structure BK where
 ks:List (List Int)
 rs:List dh
def oL (m:bQ)(w:List Int)(y:BK):Bool × BK:=if bW y.rs (aZ m w)=true then (true,⟨y.ks++[w],y.rs++[newR y.rs (aZ m w)]⟩) else (false,y)
structure KJ (m:bQ) (B:Nat) (Q:List (List Int)) (y:BK):Prop where
 sp:qU m.n B y.rs
 join:∃ V,Join m V y.ks Q y.rs
 len:BI y.ks Q
theorem KJ.start (m:bQ)(B:Nat):KJ m B [[]] ⟨[],[]⟩:=⟨qU.nil,⟨[],Join.start m⟩,BI.start⟩
theorem KJ.six {y:BK}(h:KJ m B Q y)(n6:m.n<=6):∀ q,q ∈ Q->q.length<=6:=have ⟨_,j⟩:=h.join;h.len.six j n6
theorem KJ.few {y:BK}(h:KJ m B Q y):y.ks.length=y.rs.length/\y.ks.length<=m.n:=by
 obtain⟨V,j⟩:=h.join;have:=j.len;have:=j.le;omega
theorem KJ.five {y:BK}(h:KJ m B Q y)(n6:m.n<=6):∀ q,q ∈ y.ks->q.length<=5:=λq hq=>by
 obtain⟨i,hi,rfl⟩:=List.mem_iff_getElem.1 hq;have:=h.len.kept i _ (lF hi);have:=h.few;omega
theorem KJ.next {y:BK}(ok:m.Ok)(h1:1<=B)(hz:∀ i,sz ((aZ m w).getD i 0)<=B)(h:KJ m B (w::Q) y) :
  ((oL m w y).1=true->KJ m B (Q++dD m.k w) (oL m w y).2/\jM m (Q++dD m.k w) (oL m w y).2.rs<jM m (w::Q) y.rs)/\((oL m w y).1=false->KJ m B Q (oL m w y).2/\jM m Q (oL m w y).2.rs<jM m (w::Q) y.rs):=by
 obtain⟨V,j⟩:=h.join;unfold oL;by_cases hg:bW y.rs (aZ m w)=true
 .rw[if_pos hg];exact⟨λ_=>⟨⟨h.sp.grow (lu ok w) h1 hz hg,⟨_,j.keep ok hg⟩,h.len.keep⟩,CP ok j hg⟩,λx=>by cases x⟩
 .rw[if_neg hg];have hg:bW y.rs (aZ m w)=false:=by simpa using hg
  exact⟨λx=>(by cases x),λ_=>⟨⟨h.sp,⟨_,j.drop ok hg⟩,h.len.drop⟩,vI⟩⟩
end
structure JA (n:Nat) (C:List (List Rat)) (rs:List dh):Prop where
 rows:∀ r,r ∈ rs->cZ n C (vf r.v)
 kept:∀ c,c ∈ C->cZ n (pz rs) (vf c)
section
variable {n B:Nat}{C:List (List Rat)}{rs:List dh}{w:List Rat}
theorem JA.nil:JA n [] []:=⟨λ_ h=>(by cases h),λ_ h=>(by cases h)⟩
theorem JA.add (j:JA n C rs)(e:MI n rs)(hl:w.length=n):JA n (C++[w]) (tq rs w):=by
 have hs:=CG rs w;rw[hl] at hs;have hm:∀ {u:Nat->Rat},cZ n C u->cZ n (C++[w]) u:=λh=>h.mono λb hb=>List.mem_append.2 (.inl hb);have hC:∀ {u:Nat->Rat},cZ n (pz rs) u->cZ n (C++[w]) u:=λh=>h.trans λb hb=>by
  obtain⟨r,hr,rfl⟩:=jH hb;exact hm (j.rows r hr)
 unfold tq
 split
 .refine⟨λr hr=>?_,λu hu=>?_⟩
  .rcases ru hr with hr|hr
   .exact hm (j.rows r hr)
   .rw[lV hr];have h1:cZ n (C++[w]) (vf w):=.mem (List.mem_append.2 (.inr (List.mem_singleton.2 rfl)));refine (h1.plus ((hC hs).smul (-1))).congr λi _=>?_;show (bC rs w).getD i 0=w.getD i 0 + -1*(w.getD i 0-(bC rs w).getD i 0)
    rw[Rat.neg_mul,Rat.one_mul,Rat.neg_sub,Rat.sub_eq_add_neg,Rat.add_comm (w.getD i 0),Rat.add_assoc,Rat.neg_add_cancel,Rat.add_zero]
  .rw[Ky];rcases ru hu with hu|hu
   .exact (j.kept u hu).mono λb hb=>List.mem_append.2 (.inl hb)
   .rw[lV hu];have h1:=hs.mono (C:=pz rs++[bC rs w]) λb hb=>List.mem_append.2 (.inl hb);have h2:cZ n (pz rs++[bC rs w]) (vf (bC rs w)):=.mem (List.mem_append.2 (.inr (List.mem_singleton.2 rfl)));refine (h1.plus h2).congr λi _=>?_;show w.getD i 0=w.getD i 0-(bC rs w).getD i 0+(bC rs w).getD i 0
    rw[Rat.sub_add_cancel]
 .rename_i hg;refine⟨λr hr=>hm (j.rows r hr),λu hu=>?_⟩;rcases ru hu with hu|hu
  .exact j.kept u hu
  .rw[lV hu];exact (zh e hl).1 (by simpa using hg)
end
def spR (m:bQ)(L K:List (List Int)):List dh:=K.foldl (λrs u=>tq rs (bG m L u)) []
section
variable {m:bQ}{B e:Nat}{L K V V2:List (List Int)}{u:List Int}{r1 r2:List dh}
theorem az1:spR m L (K++[u])=tq (spR m L K) (bG m L u):=by unfold spR;rw[List.foldl_append];rfl
theorem jQ:(bG m L u).length=L.length:=by simp[bG]
theorem bd9 (h1:1<=B)(hz:∀ u,u ∈ K->∀ i,sz ((bG m L u).getD i 0)<=B):qU L.length B (spR m L K)/\JA L.length (K.map (bG m L)) (spR m L K):=by
 induction hn:K.length generalizing K with
 | zero=>rw[EQ hn];exact⟨qU.nil,JA.nil⟩
 | succ k ih =>
  obtain⟨P,x,rfl⟩:∃ u x,K=u++[x]:=⟨K.dropLast,K.getLast (λh=>by rw[h] at hn;cases hn),(List.dropLast_concat_getLast _).symm⟩
  rw[jd,kC] at hn;obtain⟨a,b⟩:=ih (λu hu=>hz u (List.mem_append.2 (.inl hu))) (by omega)
  rw[az1,List.map_append];exact⟨a.add jQ h1 (hz x (List.mem_append.2 (.inr (List.mem_singleton.2 rfl)))),b.add a.ech jQ⟩
theorem az2 (ok:m.Ok)(h1:1<=B)(hz:∀ u,u ∈ K->∀ i,sz ((bG m L u).getD i 0)<=B)(j:Join m V K [] r1)(j2:Join (aU m) V2 L [] r2):(spR m L K).length=EI m.k (kU m):=by
 obtain⟨a,b⟩:=bd9 h1 hz;have h:=Ij ok j j2 a.ech b.rows λu hu=>b.kept _ (List.mem_map.2 ⟨u,hu,rfl⟩);refine (Jt ?_).symm;have e:FD m.k (kU m)=λ(u l:Wd m.k)=>jW m u.1 l.1:=by
  funext u l;exact (Bv l.1 u.1 l.2).symm
 rw[e];exact h
end
section
variable {a b:Au}{B N e:Nat}
theorem JB {α:Type}{f:α->Rat}{C:Nat}:∀ {l:List α},(∀ x,x ∈ l->sz (f x)<=C)->sz (mF f l)<=l.length*(C+1)+1
 | [],_=>by rw[mF,fH];simp
 | x::l,h=>by
  have h1:=JB (f:=f) (l:=l) λy hy=>h y (List.mem_cons_of_mem _ hy);have h2:=h x rY;have:=zQ (f x) (mF f l);rw[mF,List.length_cons,Nat.succ_mul];omega
theorem aQ4 {l:List bM}(h1:1<=B)(hz:∀ x,x ∈ l->sz x.q<=B)(s i j:Nat):sz (iH l s i j)<=l.length*(B+1)+1:=by
 refine JB λx hx=>?_
 split
 .exact hz x hx
 .rw[fH];exact h1
structure Au.QR (a:Au):Prop where
 st:a.st<=6
 ini:Small 24 a.ini
 fin:Small 24 a.fin
 ent:∀ s i j,sz (iH a.aB s i j)<=24
theorem Au.Sz.few (h:a.Sz 1 10)(hs:a.st<=6):a.QR :=
 ⟨hs,λq hq=>Nat.le_trans (h.ini q hq) (by decide),λq hq=>Nat.le_trans (h.fin q hq) (by decide),λs i j=>by
  have h1:=aQ4 (B:=1) (by decide) h.arc s i j
  have:=h.num;have:=Nat.mul_le_mul_right 2 this;omega⟩
theorem Yk:∀ {l:List Au},(∀ a,a ∈ l->Small 24 a.fin)->Small 24 (Qc l)
 | [],_=>λq hq=>by cases hq
 | a :: r, h => λq hq => by
  rcases ru hq with hq|hq
  .exact h a rY q hq
  .obtain⟨b,hb,hq⟩:=List.mem_flatMap.1 hq;obtain⟨x,hx,rfl⟩:=jH hq;rw[EY];exact h b (List.mem_cons_of_mem _ hb) x hx
theorem aa4:∀ {l:List Au},(∀ a,a ∈ l->∀ s i j,sz (iH a.aB s i j)<=24)->∀ s i j,sz (mW l s i j)<=24
 | [],_,s,i,j=>by rw[mW,fH];decide
 | a :: r, h, s, i, j => by
  rw[mW]
  split
  .split
   .exact h a rY s i j
   .rw[fH];decide
  .split
   .rw[fH];decide
   .exact aa4 (λb hb=>h b (List.mem_cons_of_mem _ hb)) ..
theorem O0 {m:bQ}{s i j:Nat}(h:(m.gV.getD s []).length<=i \/ ((m.gV.getD s []).getD i []).length<=j):iU m s i j=0:=by
 unfold iU;rcases h with h|h
 .rw[iO (i:=i),List.getElem?_eq_none h];rfl
 .exact xu h
theorem V4 {l:List Au}(hf:∀ a,a ∈ l->a.QR)(hn:aK l<=6)(hk:(l.getD 0 default).sym<=4):(ah l).Sz 24:=by
 refine⟨hn,by rw[wL];exact hk,by decide,by decide,λi=>?_,λi=>?_,λs i j=>?_⟩
 .refine Small.get (λq hq=>?_) (by decide) i
  obtain⟨a,ha,hq⟩:=List.mem_flatMap.1 hq;exact (hf a ha).ini q hq
 .exact (Yk λa ha=>(hf a ha).fin).get (by decide) i
 .have f:=Il l;rcases Nat.lt_or_ge s (ah l).k with hs|hs
  .rcases Nat.lt_or_ge i (ah l).n with hi|hi
   .rcases Nat.lt_or_ge j (ah l).n with hj|hj
    .rw[xq (by rw[wL] at hs;exact hs) hi hj]
     exact aa4 (λa ha=>(hf a ha).ent) ..
    .rw[O0 (.inr (by rw[f.cols s hs i hi];exact hj)),fH];decide
   .rw[O0 (.inl (by rw[f.rows s hs];exact hi)),fH];decide
  .rw[O0 (.inl (by rw[iO,List.getElem?_eq_none hs];exact Nat.zero_le _)),fH];decide

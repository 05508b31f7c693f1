/-
  M, chapter 23: how a rank is counted; sizes of the machines of automata.
-/
import Derived.Test.YtnjoncgnjdkaoaaGreatDoorKMod83
set_option linter.unusedVariables false
set_option linter.unusedSimpArgs false
namespace Go.AL
open Go Go.BigFrame
structure dP.Full (m:dP):Prop where
 rows:∀ s,s<m.k->(m.qL.getD s []).length=m.n
 cols:∀ s,s<m.k->∀ i,i<m.n->((m.qL.getD s []).getD i []).length=m.n
theorem aC4 {n:Nat}{f:Nat->Nat->Rat}:(GK n f).length=n:=by simp[GK]
theorem aC5 {n i:Nat}{f:Nat->Nat->Rat}(hi:i<n):((GK n f).getD i []).length=n:=by
 unfold GK;rw[aT _ _ hi];simp
theorem Gt (l:List Au):(cZ l).Full :=
 ⟨λs hs=>by
  rw[Fe] at hs;show (((List.range _).map λs=>GK (aJ l) (uJ l s)).getD s []).length=_
  rw[aT _ _ hs,aC4];rfl,λs hs i hi=>by
  rw[Fe] at hs;show ((((List.range _).map λs=>GK (aJ l) (uJ l s)).getD s []).getD i []).length=_
  rw[aT _ _ hs,aC5 (n:=aJ l) hi];rfl⟩
structure uK (n B:Nat) (rs:List bW):Prop where
 ech:JL n rs
 sz:KJ B rs
 len:∀ r,r ∈ rs->r.v.length=n
 cl:∀ (k:Nat) (r:bW),rs[k]? = some r->r.c.length=k+1
section
variable {n B:Nat}{rs:List bW}{w:List Rat}
theorem uK.nil:uK n B []:=⟨⟨λ_ h=>(by cases h),List.Pairwise.nil⟩,KJ.nil,λ_ h=>(by cases h),λ_ _ h=>(by cases h)⟩
theorem uK.grow (h:uK n B rs)(hw:w.length=n)(h1:1<=B)(hz:∀ i,AL.sz (w.getD i 0)<=B)(g:bM rs w=true):uK n B (rs++[newR rs w]):=by
 have hp:iP (bg rs w)<(bg rs w).length:=lq g;refine⟨h.ech.grow hw _ (by rw[pz,hw] at hp;exact hp) (yO hp),h.sz.grow h1 hz,λr hr=>?_,λk r hk=>?_⟩
 .rcases ul hr with hr|hr
  .exact h.len r hr
  .rw[lW hr];show (bg rs w).length=n;rw[pz,hw]
 .rcases Nat.lt_or_ge k rs.length with hi|hi
  .rw[List.getElem?_append_left hi] at hk;exact h.cl k r hk
  .rw[List.getElem?_append_right hi] at hk;rcases Nat.eq_zero_or_pos (k-rs.length) with h0|h0
   .rw[h0] at hk;cases hk
    show (JQ rs w).length=k+1
    rw[KI];omega
   .rw[List.getElem?_eq_none (by rw[oU];exact h0)] at hk;cases hk
theorem uK.add (h:uK n B rs)(hw:w.length=n)(h1:1<=B)(hz:∀ i,AL.sz (w.getD i 0)<=B):uK n B (wB rs w):=by
 unfold wB
 split
 .exact h.grow hw h1 hz ‹_›
 .exact h
theorem uK.le (h:uK n B rs):rs.length<=n:=h.ech.len
end
structure DSt where
 o:Option (List Int)
 rs:List bW
def keepD (m:dP)(w:List Int)(y:DSt):Bool × DSt :=
 if y.o.isSome=true then (false,y) else if wV m w≠0 then (false,⟨some w,y.rs⟩) else (bM y.rs (bP m w),⟨none,wB y.rs (bP m w)⟩)
def bn8 (m:dP)(Q:List (List Int))(y:DSt):Prop :=
 match y.o with
 | some w=>Dy m w/\w.length<=6
 | none=>∃ V K,Join m V K Q y.rs/\FX m K/\Dz K Q
structure Jd (m:dP) (B:Nat) (Q:List (List Int)) (y:DSt):Prop where
 len:∀ q,q ∈ Q->q.length<=6
 sp:uK m.n B y.rs
 ans:bn8 m Q y
def muD (m:dP)(Q:List (List Int))(y:DSt):Nat :=
 match y.o with
 | some _=>Q.length
 | none=>qV m Q y.rs
section
variable {m:dP}{B:Nat}{Q V K:List (List Int)}{w:List Int}{y:DSt}{rs:List bW}
theorem aR1 (m:dP)(Q:List (List Int))(y:DSt):Q.length<=muD m Q y:=by
 unfold muD qV
 split
 .exact Nat.le_refl _
 .omega
theorem Dz.six (h:Dz K Q)(j:Join m V K Q rs)(n6:m.n<=6):∀ q,q ∈ Q->q.length<=6:=λq hq=>by
 have:=h.open_ q hq;have:=j.len;have:=j.le;omega
theorem Jd.start (m:dP)(B:Nat):Jd m B [[]] ⟨none,[]⟩:=
 ⟨λq hq=>by rw[lW hq];exact Nat.zero_le _,uK.nil,[],[],Join.start m,λ_ h=>(by cases h),Dz.start⟩
theorem Jd.next (ok:m.Ok)(n6:m.n<=6)(h1:1<=B)(hz:∀ i,sz ((bP m w).getD i 0)<=B)(h:Jd m B (w::Q) y) :
  ((keepD m w y).1=true->Jd m B (Q++cu m.k w) (keepD m w y).2/\muD m (Q++cu m.k w) (keepD m w y).2<muD m (w::Q) y)/\((keepD m w y).1=false->Jd m B Q (keepD m w y).2/\muD m Q (keepD m w y).2<muD m (w::Q) y):=by
 obtain⟨o,rs⟩:=y;have hlq:∀ q,q ∈ Q->q.length<=6:=λq hq=>h.len q (List.mem_cons_of_mem _ hq);cases o with
 | some u =>
  have e:keepD m w ⟨some u,rs⟩ = (false,⟨some u,rs⟩):=if_pos rfl;rw[e];exact⟨λx=>(by cases x),λ_=>⟨⟨hlq,h.sp,h.ans⟩,Nat.lt_succ_self _⟩⟩
 | none =>
  obtain⟨V,K,j,hzk,hl⟩:∃ V K,Join m V K (w::Q) rs/\FX m K/\Dz K (w::Q):=h.ans;have hsp:uK m.n B rs:=h.sp;have hno:¬ ((⟨none,rs⟩:DSt).o.isSome=true):=λx=>by cases x
  by_cases hw:wV m w≠0
  .have e:keepD m w ⟨none,rs⟩ = (false,⟨some w,rs⟩):=by unfold keepD;rw[if_neg hno,if_pos hw]
   rw[e];refine⟨λx=>(by cases x),λ_=>⟨⟨hlq,hsp,j.Ou.first hzk hw,h.len w uZ⟩,?_⟩⟩
   show Q.length<qV m (w::Q) rs
   unfold qV;rw[List.length_cons];omega
  .have e:keepD m w ⟨none,rs⟩ = (bM rs (bP m w),⟨none,wB rs (bP m w)⟩):=by unfold keepD;rw[if_neg hno,if_neg hw]
   rw[e];have hadd:=hsp.add (wo ok w) h1 hz;have hw0:wV m w=0:=Decidable.byContradiction hw;refine⟨λhg=>?_,λhg=>?_⟩
   .have hg:bM rs (bP m w)=true:=hg;show Jd m B (Q++cu m.k w) ⟨none,wB rs (bP m w)⟩ /\ qV m (Q++cu m.k w) (wB rs (bP m w))<qV m (w::Q) rs
    rw[show wB rs (bP m w)=rs++[newR rs (bP m w)] from if_pos hg] at hadd ⊢
    have j2:=j.keep ok hg;have hl2:Dz (K++[w]) (Q++cu m.k w):=hl.keep;exact⟨⟨hl2.six j2 n6,hadd,_,_,j2,hzk.add hw0,hl2⟩,Fb ok j hg⟩
   .have hg:bM rs (bP m w)=false:=hg;show Jd m B Q ⟨none,wB rs (bP m w)⟩ /\ qV m Q (wB rs (bP m w))<qV m (w::Q) rs
    rw[show wB rs (bP m w)=rs from if_neg (by rw[hg];exact Bool.false_ne_true)] at hadd ⊢
    exact⟨⟨hlq,hsp,_,_,j.drop ok hg,hzk,hl.drop⟩,yP⟩
theorem Jd.done (h:Jd m B [] y):y.o=sJ m:=by
 obtain⟨o,rs⟩:=y;cases o with
 | some u=>exact (Nh (o:=some u) h.ans.1).symm
 | none =>
  obtain⟨V,K,j,hzk,_⟩:∃ V K,Join m V K [] rs/\FX m K/\Dz K []:=h.ans;exact (Nh (o:=none) λw hw=>j.Ou.none hzk w hw).symm
structure Ye where
 ks:List (List Int)
 rs:List bW
def zN (m:dP)(w:List Int)(y:Ye):Bool × Ye:=if bM y.rs (bP m w)=true then (true,⟨y.ks++[w],y.rs++[newR y.rs (bP m w)]⟩) else (false,y)
structure NC (m:dP) (B:Nat) (Q:List (List Int)) (y:Ye):Prop where
 sp:uK m.n B y.rs
 join:∃ V,Join m V y.ks Q y.rs
 len:Dz y.ks Q
theorem NC.start (m:dP)(B:Nat):NC m B [[]] ⟨[],[]⟩:=⟨uK.nil,⟨[],Join.start m⟩,Dz.start⟩
theorem NC.six {y:Ye}(h:NC m B Q y)(n6:m.n<=6):∀ q,q ∈ Q->q.length<=6:=have ⟨_,j⟩:=h.join;h.len.six j n6
theorem NC.few {y:Ye}(h:NC m B Q y):y.ks.length=y.rs.length/\y.ks.length<=m.n:=by
 obtain⟨V,j⟩:=h.join;have:=j.len;have:=j.le;omega
theorem NC.next {y:Ye}(ok:m.Ok)(h1:1<=B)(hz:∀ i,sz ((bP m w).getD i 0)<=B)(h:NC m B (w::Q) y) :
  ((zN m w y).1=true->NC m B (Q++cu m.k w) (zN m w y).2/\qV m (Q++cu m.k w) (zN m w y).2.rs<qV m (w::Q) y.rs)/\((zN m w y).1=false->NC m B Q (zN m w y).2/\qV m Q (zN m w y).2.rs<qV m (w::Q) y.rs):=by
 obtain⟨V,j⟩:=h.join;unfold zN;by_cases hg:bM y.rs (bP m w)=true
 .rw[if_pos hg];exact⟨λ_=>⟨⟨h.sp.grow (wo ok w) h1 hz hg,⟨_,j.keep ok hg⟩,h.len.keep⟩,Fb ok j hg⟩,λx=>by cases x⟩
 .rw[if_neg hg];have hg:bM y.rs (bP m w)=false:=by simpa using hg
  exact⟨λx=>(by cases x),λ_=>⟨⟨h.sp,⟨_,j.drop ok hg⟩,h.len.drop⟩,yP⟩⟩
end
structure ND (n:Nat) (C:List (List Rat)) (rs:List bW):Prop where
 rows:∀ r,r ∈ rs->bU n C (vf r.v)
 kept:∀ c,c ∈ C->bU n (oG rs) (vf c)
section
variable {n B:Nat}{C:List (List Rat)}{rs:List bW}{w:List Rat}
theorem ND.nil:ND n [] []:=⟨λ_ h=>(by cases h),λ_ h=>(by cases h)⟩
theorem ND.add (j:ND n C rs)(e:JL n rs)(hl:w.length=n):ND n (C++[w]) (wB rs w):=by
 have hs:=BI rs w;rw[hl] at hs;have hm:∀ {u:Nat->Rat},bU n C u->bU n (C++[w]) u:=λh=>h.mono λb hb=>List.mem_append.2 (.inl hb);have hC:∀ {u:Nat->Rat},bU n (oG rs) u->bU n (C++[w]) u:=λh=>h.trans λb hb=>by
  obtain⟨r,hr,rfl⟩:=mM hb;exact hm (j.rows r hr)
 unfold wB
 split
 .refine⟨λr hr=>?_,λu hu=>?_⟩
  .rcases ul hr with hr|hr
   .exact hm (j.rows r hr)
   .rw[lW hr];have h1:bU n (C++[w]) (vf w):=.mem (List.mem_append.2 (.inr (List.mem_singleton.2 rfl)));refine (h1.plus ((hC hs).smul (-1))).congr λi _=>?_;show (bg rs w).getD i 0=w.getD i 0 + -1*(w.getD i 0-(bg rs w).getD i 0)
    rw[Rat.neg_mul,Rat.one_mul,Rat.neg_sub,Rat.sub_eq_add_neg,Rat.add_comm (w.getD i 0),Rat.add_assoc,Rat.neg_add_cancel,Rat.add_zero]
  .rw[I7];rcases ul hu with hu|hu
   .exact (j.kept u hu).mono λb hb=>List.mem_append.2 (.inl hb)
   .rw[lW hu];have h1:=hs.mono (C:=oG rs++[bg rs w]) λb hb=>List.mem_append.2 (.inl hb);have h2:bU n (oG rs++[bg rs w]) (vf (bg rs w)):=.mem (List.mem_append.2 (.inr (List.mem_singleton.2 rfl)));refine (h1.plus h2).congr λi _=>?_;show w.getD i 0=w.getD i 0-(bg rs w).getD i 0+(bg rs w).getD i 0
    rw[Rat.sub_add_cancel]
 .rename_i hg;refine⟨λr hr=>hm (j.rows r hr),λu hu=>?_⟩;rcases ul hu with hu|hu
  .exact j.kept u hu
  .rw[lW hu];exact (BM e hl).1 (by simpa using hg)
end
section
variable {m:dP}{B e:Nat}{L K V V2:List (List Int)}{u:List Int}{r1 r2:List bW}
theorem NE:(oH m L u).length=L.length:=by simp[oH]
end
section
variable {a b:Au}{B N e:Nat}
theorem Ih {α:Type}{f:α->Rat}{C:Nat}:∀ {l:List α},(∀ x,x ∈ l->sz (f x)<=C)->sz (jR f l)<=l.length*(C+1)+1
 | [],_=>by rw[jR,gm];simp
 | x::l,h=>by
  have h1:=Ih (f:=f) (l:=l) λy hy=>h y (List.mem_cons_of_mem _ hy);have h2:=h x uZ;have:=Bd (f x) (jR f l);rw[jR,List.length_cons,Nat.succ_mul];omega
theorem aC6 {l:List bH}(h1:1<=B)(hz:∀ x,x ∈ l->sz x.q<=B)(s i j:Nat):sz (iU l s i j)<=l.length*(B+1)+1:=by
 refine Ih λx hx=>?_
 split
 .exact hz x hx
 .rw[gm];exact h1
structure Au.Pj (a:Au):Prop where
 st:a.st<=6
 ini:Small 24 a.ini
 fin:Small 24 a.fin
 ent:∀ s i j,sz (iU a.aS s i j)<=24
theorem Au.Sz.few (h:a.Sz 1 10)(hs:a.st<=6):a.Pj :=
 ⟨hs,λq hq=>Nat.le_trans (h.ini q hq) (by decide),λq hq=>Nat.le_trans (h.fin q hq) (by decide),λs i j=>by
  have h1:=aC6 (B:=1) (by decide) h.arc s i j
  have:=h.num;have:=Nat.mul_le_mul_right 2 this;omega⟩
theorem WJ:∀ {l:List Au},(∀ a,a ∈ l->Small 24 a.fin)->Small 24 (Rj l)
 | [],_=>λq hq=>by cases hq
 | a :: r, h => λq hq => by
  rcases ul hq with hq|hq
  .exact h a uZ q hq
  .obtain⟨b,hb,hq⟩:=List.mem_flatMap.1 hq;obtain⟨x,hx,rfl⟩:=mM hq;rw[IX];exact h b (List.mem_cons_of_mem _ hb) x hx
theorem Yf:∀ {l:List Au},(∀ a,a ∈ l->∀ s i j,sz (iU a.aS s i j)<=24)->∀ s i j,sz (uJ l s i j)<=24
 | [],_,s,i,j=>by rw[uJ,gm];decide
 | a :: r, h, s, i, j => by
  rw[uJ]
  split
  .split
   .exact h a uZ s i j
   .rw[gm];decide
  .split
   .rw[gm];decide
   .exact Yf (λb hb=>h b (List.mem_cons_of_mem _ hb)) ..
theorem NF {m:dP}{s i j:Nat}(h:(m.qL.getD s []).length<=i \/ ((m.qL.getD s []).getD i []).length<=j):oq m s i j=0:=by
 unfold oq;rcases h with h|h
 .rw[ig (i:=i),List.getElem?_eq_none h];rfl
 .exact wX h
theorem Ii {l:List Au}(hf:∀ a,a ∈ l->a.Pj)(hn:aJ l<=6)(hk:(l.getD 0 default).sym<=4):(cZ l).Sz 24:=by
 refine⟨hn,by rw[Fe];exact hk,by decide,by decide,λi=>?_,λi=>?_,λs i j=>?_⟩
 .refine Small.get (λq hq=>?_) (by decide) i
  obtain⟨a,ha,hq⟩:=List.mem_flatMap.1 hq;exact (hf a ha).ini q hq
 .exact (WJ λa ha=>(hf a ha).fin).get (by decide) i
 .have f:=Gt l;rcases Nat.lt_or_ge s (cZ l).k with hs|hs
  .rcases Nat.lt_or_ge i (cZ l).n with hi|hi
   .rcases Nat.lt_or_ge j (cZ l).n with hj|hj
    .rw[I8 (by rw[Fe] at hs;exact hs) hi hj]
     exact Yf (λa ha=>(hf a ha).ent) ..
    .rw[NF (.inr (by rw[f.cols s hs i hi];exact hj)),gm];decide
   .rw[NF (.inl (by rw[f.rows s hs];exact hi)),gm];decide
  .rw[NF (.inl (by rw[ig,List.getElem?_eq_none hs];exact Nat.zero_le _)),gm];decide

/-
  Walks of package equal, part 1: the checks (printed by mk2.py).
-/
import Derived.Test.YtanlenlmihoiiaaGreatDoorKMod83
set_option linter.unusedVariables false
set_option linter.unusedSimpArgs false
namespace Go.AL
open Go Go.BigFrame
structure bV.Full (m:bV):Prop where
 rows:∀ s,s<m.k->(m.jb.getD s []).length=m.n
 cols:∀ s,s<m.k->∀ i,i<m.n->((m.jb.getD s []).getD i []).length=m.n
theorem ad3 {n:Nat}{f:Nat->Nat->Rat}:(Ig n f).length=n:=by simp[Ig]
theorem ad4 {n i:Nat}{f:Nat->Nat->Rat}(hi:i<n):((Ig n f).getD i []).length=n:=by
 unfold Ig;rw[aT _ _ hi];simp
theorem IE (l:List Au):(ah l).Full :=
 ⟨λs hs=>by
  rw[GV] at hs;show (((List.range _).map λs=>Ig (aS l) (uM l s)).getD s []).length=_
  rw[aT _ _ hs,ad3];rfl,λs hs i hi=>by
  rw[GV] at hs;show ((((List.range _).map λs=>Ig (aS l) (uM l s)).getD s []).getD i []).length=_
  rw[aT _ _ hs,ad4 (n:=aS l) hi];rfl⟩
theorem PW {m:bV}{s:Nat}(hs:s<m.k):(aA m).jb.getD s []=Ig m.n λi j=>((m.jb.getD s []).getD j []).getD i 0:=by
 unfold aA;show (m.jb.map λM=>Ig m.n λi j=>(M.getD j []).getD i 0).getD s []=_
 rw[jh,List.getElem?_map,lQ hs,jh,lQ hs];rfl
theorem DZ (m:bV):(aA m).Full :=
 ⟨λs hs=>by rw[kX] at hs;rw[PW hs,ad3];rfl,λs hs i hi=>by rw[kX] at hs;rw[PW hs,ad4 (n:=m.n) hi];rfl⟩
structure uO (n B:Nat) (rs:List bZ):Prop where
 ech:Np n rs
 sz:Nq B rs
 len:∀ r,r ∈ rs->r.v.length=n
 cl:∀ (k:Nat) (r:bZ),rs[k]? = some r->r.c.length=k+1
section
variable {n B:Nat}{rs:List bZ}{w:List Rat}
theorem uO.nil:uO n B []:=⟨⟨λ_ h=>(by cases h),List.Pairwise.nil⟩,Nq.nil,λ_ h=>(by cases h),λ_ _ h=>(by cases h)⟩
theorem uO.grow (h:uO n B rs)(hw:w.length=n)(h1:1<=B)(hz:∀ i,AL.sz (w.getD i 0)<=B)(g:bM rs w=true):uO n B (rs++[newR rs w]):=by
 have hp:dX (aO rs w)<(aO rs w).length:=lK g;refine⟨h.ech.grow hw _ (by rw[jk,hw] at hp;exact hp) (tY hp),h.sz.grow h1 hz,λr hr=>?_,λk r hk=>?_⟩
 .rcases uy hr with hr|hr
  .exact h.len r hr
  .rw[jJ hr];show (aO rs w).length=n;rw[jk,hw]
 .rcases Nat.lt_or_ge k rs.length with hi|hi
  .rw[List.getElem?_append_left hi] at hk;exact h.cl k r hk
  .rw[List.getElem?_append_right hi] at hk;rcases Nat.eq_zero_or_pos (k-rs.length) with h0|h0
   .rw[h0] at hk;cases hk
    show (NJ rs w).length=k+1
    rw[UG];omega
   .rw[List.getElem?_eq_none (by rw[iY];exact h0)] at hk;cases hk
theorem uO.add (h:uO n B rs)(hw:w.length=n)(h1:1<=B)(hz:∀ i,AL.sz (w.getD i 0)<=B):uO n B (uK rs w):=by
 unfold uK
 split
 .exact h.grow hw h1 hz ‹_›
 .exact h
theorem uO.le (h:uO n B rs):rs.length<=n:=h.ech.len
end
structure DSt where
 o:Option (List Int)
 rs:List bZ
def keepD (m:bV)(w:List Int)(y:DSt):Bool × DSt :=
 if y.o.isSome=true then (false,y) else if yH m w≠0 then (false,⟨some w,y.rs⟩) else (bM y.rs (bF m w),⟨none,uK y.rs (bF m w)⟩)
def bB5 (m:bV)(Q:List (List Int))(y:DSt):Prop :=
 match y.o with
 | some w=>E8 m w/\w.length<=6
 | none=>∃ V K,Join m V K Q y.rs/\Ie m K/\E9 K Q
structure Q5 (m:bV) (B:Nat) (Q:List (List Int)) (y:DSt):Prop where
 len:∀ q,q ∈ Q->q.length<=6
 sp:uO m.n B y.rs
 ans:bB5 m Q y
def muD (m:bV)(Q:List (List Int))(y:DSt):Nat :=
 match y.o with
 | some _=>Q.length
 | none=>iP m Q y.rs
section
variable {m:bV}{B:Nat}{Q V K:List (List Int)}{w:List Int}{y:DSt}{rs:List bZ}
theorem E9.six (h:E9 K Q)(j:Join m V K Q rs)(n6:m.n<=6):∀ q,q ∈ Q->q.length<=6:=λq hq=>by
 have:=h.open_ q hq;have:=j.len;have:=j.le;omega
theorem Q5.start (m:bV)(B:Nat):Q5 m B [[]] ⟨none,[]⟩:=
 ⟨λq hq=>by rw[jJ hq];exact Nat.zero_le _,uO.nil,[],[],Join.start m,λ_ h=>(by cases h),E9.start⟩
theorem Q5.next (ok:m.Ok)(n6:m.n<=6)(h1:1<=B)(hz:∀ i,sz ((bF m w).getD i 0)<=B)(h:Q5 m B (w::Q) y) :
  ((keepD m w y).1=true->Q5 m B (Q++cu m.k w) (keepD m w y).2/\muD m (Q++cu m.k w) (keepD m w y).2<muD m (w::Q) y)/\((keepD m w y).1=false->Q5 m B Q (keepD m w y).2/\muD m Q (keepD m w y).2<muD m (w::Q) y):=by
 obtain⟨o,rs⟩:=y;have hlq:∀ q,q ∈ Q->q.length<=6:=λq hq=>h.len q (List.mem_cons_of_mem _ hq);cases o with
 | some u =>
  have e:keepD m w ⟨some u,rs⟩ = (false,⟨some u,rs⟩):=if_pos rfl;rw[e];exact⟨λx=>(by cases x),λ_=>⟨⟨hlq,h.sp,h.ans⟩,Nat.lt_succ_self _⟩⟩
 | none =>
  obtain⟨V,K,j,hzk,hl⟩:∃ V K,Join m V K (w::Q) rs/\Ie m K/\E9 K (w::Q):=h.ans;have hsp:uO m.n B rs:=h.sp;have hno:¬ ((⟨none,rs⟩:DSt).o.isSome=true):=λx=>by cases x
  by_cases hw:yH m w≠0
  .have e:keepD m w ⟨none,rs⟩ = (false,⟨some w,rs⟩):=by unfold keepD;rw[if_neg hno,if_pos hw]
   rw[e];refine⟨λx=>(by cases x),λ_=>⟨⟨hlq,hsp,j.Kz.first hzk hw,h.len w pU⟩,?_⟩⟩
   show Q.length<iP m (w::Q) rs
   unfold iP;rw[List.length_cons];omega
  .have e:keepD m w ⟨none,rs⟩ = (bM rs (bF m w),⟨none,uK rs (bF m w)⟩):=by unfold keepD;rw[if_neg hno,if_neg hw]
   rw[e];have hadd:=hsp.add (jl ok w) h1 hz;have hw0:yH m w=0:=Decidable.byContradiction hw;refine⟨λhg=>?_,λhg=>?_⟩
   .have hg:bM rs (bF m w)=true:=hg;show Q5 m B (Q++cu m.k w) ⟨none,uK rs (bF m w)⟩ /\ iP m (Q++cu m.k w) (uK rs (bF m w))<iP m (w::Q) rs
    rw[show uK rs (bF m w)=rs++[newR rs (bF m w)] from if_pos hg] at hadd ⊢
    have j2:=j.keep ok hg;have hl2:E9 (K++[w]) (Q++cu m.k w):=hl.keep;exact⟨⟨hl2.six j2 n6,hadd,_,_,j2,hzk.add hw0,hl2⟩,GU ok j hg⟩
   .have hg:bM rs (bF m w)=false:=hg;show Q5 m B Q ⟨none,uK rs (bF m w)⟩ /\ iP m Q (uK rs (bF m w))<iP m (w::Q) rs
    rw[show uK rs (bF m w)=rs from if_neg (by rw[hg];exact Bool.false_ne_true)] at hadd ⊢
    exact⟨⟨hlq,hsp,_,_,j.drop ok hg,hzk,hl.drop⟩,xO⟩
theorem Q5.done (h:Q5 m B [] y):y.o=UJ m:=by
 obtain⟨o,rs⟩:=y;cases o with
 | some u=>exact (Px (o:=some u) h.ans.1).symm
 | none =>
  obtain⟨V,K,j,hzk,_⟩:∃ V K,Join m V K [] rs/\Ie m K/\E9 K []:=h.ans;exact (Px (o:=none) λw hw=>j.Kz.none hzk w hw).symm
structure y7 where
 ks:List (List Int)
 rs:List bZ
def oJ (m:bV)(w:List Int)(y:y7):Bool × y7:=if bM y.rs (bF m w)=true then (true,⟨y.ks++[w],y.rs++[newR y.rs (bF m w)]⟩) else (false,y)
structure KZ (m:bV) (B:Nat) (Q:List (List Int)) (y:y7):Prop where
 sp:uO m.n B y.rs
 join:∃ V,Join m V y.ks Q y.rs
 len:E9 y.ks Q
theorem KZ.start (m:bV)(B:Nat):KZ m B [[]] ⟨[],[]⟩:=⟨uO.nil,⟨[],Join.start m⟩,E9.start⟩
theorem KZ.six {y:y7}(h:KZ m B Q y)(n6:m.n<=6):∀ q,q ∈ Q->q.length<=6:=have ⟨_,j⟩:=h.join;h.len.six j n6
theorem KZ.few {y:y7}(h:KZ m B Q y):y.ks.length=y.rs.length/\y.ks.length<=m.n:=by
 obtain⟨V,j⟩:=h.join;have:=j.len;have:=j.le;omega
theorem KZ.five {y:y7}(h:KZ m B Q y)(n6:m.n<=6):∀ q,q ∈ y.ks->q.length<=5:=λq hq=>by
 obtain⟨i,hi,rfl⟩:=List.mem_iff_getElem.1 hq;have:=h.len.kept i _ (lQ hi);have:=h.few;omega
theorem KZ.next {y:y7}(ok:m.Ok)(h1:1<=B)(hz:∀ i,sz ((bF m w).getD i 0)<=B)(h:KZ m B (w::Q) y) :
  ((oJ m w y).1=true->KZ m B (Q++cu m.k w) (oJ m w y).2/\iP m (Q++cu m.k w) (oJ m w y).2.rs<iP m (w::Q) y.rs)/\((oJ m w y).1=false->KZ m B Q (oJ m w y).2/\iP m Q (oJ m w y).2.rs<iP m (w::Q) y.rs):=by
 obtain⟨V,j⟩:=h.join;unfold oJ;by_cases hg:bM y.rs (bF m w)=true
 .rw[if_pos hg];exact⟨λ_=>⟨⟨h.sp.grow (jl ok w) h1 hz hg,⟨_,j.keep ok hg⟩,h.len.keep⟩,GU ok j hg⟩,λx=>by cases x⟩
 .rw[if_neg hg];have hg:bM y.rs (bF m w)=false:=by simpa using hg
  exact⟨λx=>(by cases x),λ_=>⟨⟨h.sp,⟨_,j.drop ok hg⟩,h.len.drop⟩,xO⟩⟩
end
structure PX (n:Nat) (C:List (List Rat)) (rs:List bZ):Prop where
 rows:∀ r,r ∈ rs->dh n C (vf r.v)
 kept:∀ c,c ∈ C->dh n (o9 rs) (vf c)
section
variable {n B:Nat}{C:List (List Rat)}{rs:List bZ}{w:List Rat}
theorem PX.nil:PX n [] []:=⟨λ_ h=>(by cases h),λ_ h=>(by cases h)⟩
theorem PX.add (j:PX n C rs)(e:Np n rs)(hl:w.length=n):PX n (C++[w]) (uK rs w):=by
 have hs:=DR rs w;rw[hl] at hs;have hm:∀ {u:Nat->Rat},dh n C u->dh n (C++[w]) u:=λh=>h.mono λb hb=>List.mem_append.2 (.inl hb);have hC:∀ {u:Nat->Rat},dh n (o9 rs) u->dh n (C++[w]) u:=λh=>h.trans λb hb=>by
  obtain⟨r,hr,rfl⟩:=kK hb;exact hm (j.rows r hr)
 unfold uK
 split
 .refine⟨λr hr=>?_,λu hu=>?_⟩
  .rcases uy hr with hr|hr
   .exact hm (j.rows r hr)
   .rw[jJ hr];have h1:dh n (C++[w]) (vf w):=.mem (List.mem_append.2 (.inr (List.mem_singleton.2 rfl)));refine (h1.plus ((hC hs).smul (-1))).congr λi _=>?_;show (aO rs w).getD i 0=w.getD i 0 + -1*(w.getD i 0-(aO rs w).getD i 0)
    rw[Rat.neg_mul,Rat.one_mul,Rat.neg_sub,Rat.sub_eq_add_neg,Rat.add_comm (w.getD i 0),Rat.add_assoc,Rat.neg_add_cancel,Rat.add_zero]
  .rw[KQ];rcases uy hu with hu|hu
   .exact (j.kept u hu).mono λb hb=>List.mem_append.2 (.inl hb)
   .rw[jJ hu];have h1:=hs.mono (C:=o9 rs++[aO rs w]) λb hb=>List.mem_append.2 (.inl hb);have h2:dh n (o9 rs++[aO rs w]) (vf (aO rs w)):=.mem (List.mem_append.2 (.inr (List.mem_singleton.2 rfl)));refine (h1.plus h2).congr λi _=>?_;show w.getD i 0=w.getD i 0-(aO rs w).getD i 0+(aO rs w).getD i 0
    rw[Rat.sub_add_cancel]
 .rename_i hg;refine⟨λr hr=>hm (j.rows r hr),λu hu=>?_⟩;rcases uy hu with hu|hu
  .exact j.kept u hu
  .rw[jJ hu];exact (Ad e hl).1 (by simpa using hg)
end
section
variable {m:bV}{B e:Nat}{L K V V2:List (List Int)}{u:List Int}{r1 r2:List bZ}
theorem fU:(aZ m L u).length=L.length:=by simp[aZ]
end
section
variable {a b:Au}{B N e:Nat}
theorem JI {α:Type}{f:α->Rat}{C:Nat}:∀ {l:List α},(∀ x,x ∈ l->sz (f x)<=C)->sz (oD f l)<=l.length*(C+1)+1
 | [],_=>by rw[oD,fH];simp
 | x::l,h=>by
  have h1:=JI (f:=f) (l:=l) λy hy=>h y (List.mem_cons_of_mem _ hy);have h2:=h x pU;have:=AX (f x) (oD f l);rw[oD,List.length_cons,Nat.succ_mul];omega
theorem aR0 {l:List bU}(h1:1<=B)(hz:∀ x,x ∈ l->sz x.q<=B)(s i j:Nat):sz (jf l s i j)<=l.length*(B+1)+1:=by
 refine JI λx hx=>?_
 split
 .exact hz x hx
 .rw[fH];exact h1
structure Au.Few (a:Au):Prop where
 st:a.st<=6
 ini:Small 24 a.ini
 fin:Small 24 a.fin
 ent:∀ s i j,sz (jf a.aN s i j)<=24
theorem Au.Sz.few (h:a.Sz 1 10)(hs:a.st<=6):a.Few :=
 ⟨hs,λq hq=>Nat.le_trans (h.ini q hq) (by decide),λq hq=>Nat.le_trans (h.fin q hq) (by decide),λs i j=>by
  have h1:=aR0 (B:=1) (by decide) h.arc s i j
  have:=h.num;have:=Nat.mul_le_mul_right 2 this;omega⟩
theorem Y2:∀ {l:List Au},(∀ a,a ∈ l->Small 24 a.fin)->Small 24 (UH l)
 | [],_=>λq hq=>by cases hq
 | a :: r, h => λq hq => by
  rcases uy hq with hq|hq
  .exact h a pU q hq
  .obtain⟨b,hb,hq⟩:=List.mem_flatMap.1 hq;obtain⟨x,hx,rfl⟩:=kK hq;rw[OC];exact h b (List.mem_cons_of_mem _ hb) x hx
theorem ad5:∀ {l:List Au},(∀ a,a ∈ l->∀ s i j,sz (jf a.aN s i j)<=24)->∀ s i j,sz (uM l s i j)<=24
 | [],_,s,i,j=>by rw[uM,fH];decide
 | a :: r, h, s, i, j => by
  rw[uM]
  split
  .split
   .exact h a pU s i j
   .rw[fH];decide
  .split
   .rw[fH];decide
   .exact ad5 (λb hb=>h b (List.mem_cons_of_mem _ hb)) ..
theorem PY {m:bV}{s i j:Nat}(h:(m.jb.getD s []).length<=i \/ ((m.jb.getD s []).getD i []).length<=j):qJ m s i j=0:=by
 unfold qJ;rcases h with h|h
 .rw[jh (i:=i),List.getElem?_eq_none h];rfl
 .exact vS h
theorem WT {l:List Au}(hf:∀ a,a ∈ l->a.Few)(hn:aS l<=6)(hk:(l.getD 0 default).sym<=4):(ah l).Sz 24:=by
 refine⟨hn,by rw[GV];exact hk,by decide,by decide,λi=>?_,λi=>?_,λs i j=>?_⟩
 .refine Small.get (λq hq=>?_) (by decide) i
  obtain⟨a,ha,hq⟩:=List.mem_flatMap.1 hq;exact (hf a ha).ini q hq
 .exact (Y2 λa ha=>(hf a ha).fin).get (by decide) i
 .have f:=IE l;rcases Nat.lt_or_ge s (ah l).k with hs|hs
  .rcases Nat.lt_or_ge i (ah l).n with hi|hi
   .rcases Nat.lt_or_ge j (ah l).n with hj|hj
    .rw[RV (by rw[GV] at hs;exact hs) hi hj]
     exact ad5 (λa ha=>(hf a ha).ent) ..
    .rw[PY (.inr (by rw[f.cols s hs i hi];exact hj)),fH];decide
   .rw[PY (.inl (by rw[f.rows s hs];exact hi)),fH];decide
  .rw[PY (.inl (by rw[jh,List.getElem?_eq_none hs];exact Nat.zero_le _)),fH];decide
end
end Go.AL
namespace Go.Proofs.YtanlenlmihoiiaaGreatDoor
open Go Go.AL
theorem take_snoc {α:Type}{l:List α}{i:Nat}(d:α)(hi:i<l.length):l.take (i+1)=l.take i++[l.getD i d]:=by
 rw[List.take_succ_eq_append_getElem hi,jh,lQ hi];rfl
def UR (a:Au):Au:={ a with aN:=dK a.aN }
theorem Y3 {a:Au}(h:a.Ok):∀ x,x ∈ (UR a).aN->1<=x.l:=gQ.tidy (p:=λ_ l _=>1<=l) λx hx=>(h.arc x hx).2.2.1
theorem Ah (l:List bU):(dK l).length<=l.length:=by
 unfold dK UK;refine Nat.le_trans (List.length_filter_le ..) ?_;have h:=JG (sortA l) (sortA l).length;unfold outA at h;rw[List.take_length] at h;have:(sortA l).length=l.length:=xP ..;omega
abbrev dAu (a:Au):D:=.ag [dI 1,.sl [],dI a.sym,dI a.st,qG a.ini,qG a.fin,jW a.aN]
theorem aR1 {l:List bU}{f:Nat}{caps:List V}{p:bU->Bool}(hf:∀ x,x ∈ l->ai P f (KU x::caps) (.d (dB (p x))))(nl:l.length<=1099511627776):ai P F.ig [.d (jW l),.fn f caps] (.d (dI (Jm p l))):=by
 refine ai.intro fn.ig (by rfl) (by rfl) (ay (by rfl)) λE hE=>(AW.sg hE rfl (aF rfl (OL.nil (AW.seq (AW.sg hE rfl (aj rfl (fF sl.dm rfl rfl ?_)))))))
 refine aj rfl (OL.nil (AW.block ?_));refine AW.aY (α:=Nat) [(0,_),(1,_),(7,_)] [] (λi=>[(8,.d (dI i))]) (λi=>[]) (λi=>i<=l.length/\∀ j,j<i->p (l.getD j default)=false) (λi=>l.length-i) 0 (.cons (di rfl) (.cons (KF rfl) (.cons (di rfl) .nil))) .nil ⟨⟨Nat.zero_le _,λj hj=>by omega⟩,.dD,.nil⟩ ?_
 rintro i ⟨h1,h2⟩
 refine AW.sg hE rfl (bG rfl rfl rfl (OL.nil (AW.seq (AW.cond rfl (λh9=>?_) (λh9=>?_)))))
 .try simp only[fD] at h9
  refine AW.skip (AW.seq (AW.block (AW.sg hE rfl (aj rfl (aF rfl (OL.nil (AW.sg hE rfl ?_)))))));refine QU rfl (aj rfl (aj rfl (dR sl.dm default rfl rfl (by omega) rfl rfl (iD ag.mX rfl (vs:=[_,_,_,_,_,_,_,_,_,_,_]) rfl (ay rfl) (bH rfl (.cons vR vL) (hf (l.getD i default) (getD_mem (by omega) _)) (OL.nil (AW.cond rfl (λh16=>?_) (λh16=>?_))))))))
  .have h16:=h16;exact AW.sg hE rfl (aj rfl (aF rfl (OL.nil (AW.ret (aP.r ⟨_,.tmp rfl .nil,.le (bW.int ((Eo (by omega) default h16 h2).symm))⟩)))))
  .have h16:=h16;refine AW.skip (AW.rg hE rfl (aI rfl rfl (by omega) (aj rfl (OL.nil ?_))))
   exact AW.again (x:=i) (i+1) (by omega) ⟨⟨by omega,λj hj=>by rcases Nat.lt_or_ge j i with h|h;exact h2 j h;obtain rfl:j=i:=(by omega);exact h16⟩,Knows.app .yU .dD,.nil⟩
 .try simp only[fD] at h9
  exact AW.exit (AW.sg hE rfl (aF rfl (OL.nil (AW.ret (aP.r ⟨_,.tmp rfl .nil,.le (bW.int ((Gy default λj hj=>h2 j (by omega)).symm))⟩)))))
theorem PZ {l:List bU}{f:Nat}{caps:List V}{p:bU->Bool}(hf:∀ x,x ∈ l->ai P f (KU x::caps) (.d (dB (p x))))(nl:l.length<=1099511627776):ai P F.jo [.d (jW l),.fn f caps] (.d (dB (l.any p))):=by
 refine ai.intro fn.jo (by rfl) (by rfl) (ay (by rfl)) λE hE=>(AW.sg hE rfl (aF rfl (OL.nil (AW.sg hE rfl (aj rfl (QU rfl (bH rfl vL (aR1 hf nl) ?_)))))))
 exact qX rfl rfl rfl (aF rfl (OL.nil (AW.ret (aP.r ⟨_,.tmp rfl .nil,.le (bW.bool (VS p l))⟩))))
theorem aZ1 {l:List Rat}(nl:l.length<=64)(hz:∀ x,x ∈ l->sz x<=134217728):ai P F.wJ [kS,.d (qG l)] (.d (qG l)):=by
 refine ai.intro fn.wJ (by rfl) (by rfl) (ay (by rfl)) λE hE=>(AW.sg hE rfl (iO rfl rfl λb2=>(jK rfl (OL.nil (AW.sg hE rfl (jK rfl (OL.nil ?_)))))))
 refine AW.seq (AW.seq (AW.own 5 21 T.aC 8 rfl rfl (AW.rg hE rfl (aj rfl (fF sl.aW rfl rfl (aj rfl (OL.nil ?_)))))));refine AW.block ?_;refine AW.aY (α:=Nat × Nat × Nat) [(2,_),(4,_),(8,_),(9,_)] [(2,_)] (λ(i,bq,cq)=>[(5,.bI 21 bq i cq),(10,.d (dI i))]) (λ(i,bq,cq)=>[(21,.row bq cq T.aC 8 ((l.take i).map dW))]) (λ(i,bq,cq)=>i<=l.length) (λ(i,bq,cq)=>l.length-i) (0,0,0) (.cons (iw rfl) (.cons (xK rfl) (.cons (di rfl) (.cons (di rfl) .nil)))) (.cons (je rfl) .nil) ⟨Nat.zero_le _,.iW,.cons rfl .nil⟩ ?_
 rintro⟨i,bq,cq⟩ h1
 have h1:i<=l.length:=h1;refine AW.sg hE rfl (bG rfl rfl rfl (OL.nil (AW.seq (AW.cond rfl (λh11=>?_) (λh11=>?_)))))
 .try simp only[fD] at h11
  refine AW.skip (AW.seq (AW.block (AW.seq ?_)));have hx:=hz (l.getD i 0) (getD_mem (by omega) 0)
  refine AW.rg hE rfl (dR sl.aW 0 rfl rfl (by omega) rfl rfl (iD ag.aC rfl (vs:=[_,_,_,_,_,_,_,_]) rfl (ay rfl) (al z.aC rfl λb7=>(fA sz.aC rfl rfl rfl rfl rfl (ay rfl) (cells2:=[_,_,_,_,_,_,_,_]) rfl (OL.nil (AW.dg 2 [0,1,2,3,4,5,6,7,8] ak hE rfl (by kernel_rfl) (OI.aK (os:=[_,_,_,_,_,_,_,_,_]) rfl ?_)))))))
  refine iU rfl (aQ ag.Ring rfl rfl (vs:=[_,_]) rfl (ay rfl) (aQ ag.aC rfl rfl (vs:=[_,_,_,_,_,_,_,_]) rfl (ay rfl) (aQ ag.Ring rfl rfl (vs:=[_,_]) rfl (ay rfl) (bH rfl vL (ac7) (bH rfl vL (ac8 (p:=(l.getD i 0)) (q:=0) (by omega) z0K) ?_)))))
  rw[Rat.add_zero];refine rF (y:=dW (l.getD i 0)) sl.aW Nr rfl (by decide) ?_
  refine xZ sl.aW rfl rfl rfl (by rw[dA,List.length_take];omega) (VC.d _) (λy hy=>by rw[jJ hy];rfl) (by simp;omega) (by simp;omega) (.inr rfl) (ys:=(l.take (i+1)).map dW) (by rw[take_snoc 0 (show i<l.length by omega),List.map_append];rfl) (n2:=i+1) rfl λb2 c2=>?_
  refine pV rfl (OL.nil (AW.rg hE rfl (aI rfl rfl (by omega) (aj rfl (OL.nil ?_)))))
  exact AW.again (x:=(i,bq,cq)) (i+1,b2,c2) (by (simp only[];omega)) ⟨by omega,Knows.app .LV .iW,dL.app (.cons rfl .nil) (.cons rfl .nil)⟩
 .try simp only[fD] at h11
  refine AW.exit (AW.seq ?_);obtain rfl:i=l.length:=by omega
  refine AW.freeze 21 rfl (AW.to [(5,.d (qG l))] [] (.cons (dP (by rw[dA,List.length_take,Nat.min_self]) (by rw[List.take_length])) .nil) .nil ?_)
  exact AW.rg hE rfl (aj rfl (aF rfl (OL.nil (AW.ret (aP.r ⟨_,.tmp rfl .nil,.le vR⟩)))))
theorem bo7  : ai P F.wI [kS] (kS):=by
 refine ai.intro fn.wI (by rfl) (by rfl) (ay (by rfl)) λE hE=>(AW.sg hE rfl (iO rfl rfl λb1=>(al z.Ring rfl λb2=>(OL.nil (AW.seq (AW.dg 1 [0,1,2,3,4,5,6] ak hE rfl (by kernel_rfl) (OI.aK (os:=[_,_,_,_,_,_,_]) rfl ?_)))))))
 refine bC fd.lD rfl rfl (aG ce.int rfl rfl rfl (bC fd.EW rfl rfl (aG ce.ints rfl rfl rfl (bH rfl vL (YW (l:=[]) (by decide)) (bd z.Ring pl.Ring (cs:=[_,_]) rfl (fA sz.Ring rfl rfl rfl rfl rfl (ay rfl) (cells2:=[_,_]) rfl (OL.nil ?_)))))))
 exact AW.ret (aP.r ⟨_,.dN rfl rfl ag.Ring (ay rfl) .nil,.ag (.cons (.le vR) (.cons (.le vR) .nil))⟩)
theorem aB4 {a:Au}(h:a.Ok)(za:a.Sz 134217728 20)(s1:a.sym<=32)(s2:a.st<=64):ai P F.uV [yV a] (.d (dB true)):=by
 have e0:=h.Jl;have e1:=h.ini;have e2:=h.fin;have e3:=za.num;refine ai.intro fn.uV (by rfl) (by rfl) (ay (by rfl)) λE hE=>(AW.sg hE rfl (iO rfl rfl λb1=>(aF rfl (OL.nil (AW.seq (AW.sg hE rfl (bC fd.jE rfl rfl ?_)))))))
 refine aQ ag.Ring rfl rfl (vs:=[_,_]) rfl (ay rfl) (bH rfl .dD (UN) (nt rfl (aj rfl (OL.yes rfl (bC fd.lX rfl rfl (OL.yes rfl (aG ce.int rfl rfl rfl ?_)))))));refine OL.yes rfl (bG rfl rfl (c:=false) (by exact decide_eq_false (by omega)) (oI rfl rfl (aj rfl (OL.yes rfl (bC fd.lX rfl rfl (OL.yes rfl (aG ce.int rfl rfl rfl ?_)))))))
 refine OL.yes rfl (jI rfl rfl (c:=false) (by exact decide_eq_false (by omega)) (oI rfl rfl (aj rfl (OL.yes rfl (bC fd.oz rfl rfl (OL.yes rfl (aG ce.int rfl rfl rfl ?_)))))))
 refine OL.yes rfl (bG rfl rfl (c:=false) (by exact decide_eq_false (by omega)) (oI rfl rfl (aj rfl (OL.yes rfl (bC fd.oz rfl rfl (OL.yes rfl (aG ce.int rfl rfl rfl ?_)))))))
 refine OL.yes rfl (jI rfl rfl (c:=false) (by exact decide_eq_false (by omega)) (oI rfl rfl (aj rfl (OL.yes rfl (bC fd.qW rfl rfl (OL.yes rfl (aG ce.aW rfl rfl rfl ?_)))))))
 refine OL.yes rfl (fF sl.aW rfl rfl (OL.yes rfl (bC fd.oz rfl rfl (OL.yes rfl (aG ce.int rfl rfl rfl (OL.yes rfl (eX rfl rfl (c:=false) (by exact kY (by omega)) ?_)))))))
 refine oI rfl rfl (aj rfl (OL.yes rfl (bC fd.uw rfl rfl (OL.yes rfl (aG ce.aW rfl rfl rfl (OL.yes rfl (fF sl.aW rfl rfl ?_)))))));refine OL.yes rfl (bC fd.oz rfl rfl (OL.yes rfl (aG ce.int rfl rfl rfl (OL.yes rfl (eX rfl rfl (c:=false) (by exact kY (by omega)) (oI rfl rfl (aj rfl ?_)))))))
 refine OL.yes rfl (bC fd.gK rfl rfl (OL.yes rfl (aG ce.dm rfl rfl rfl (OL.yes rfl (fF sl.dm rfl rfl (OL.yes rfl (jI rfl rfl (c:=false) (by exact decide_eq_false (by omega)) ?_)))))))
 refine oI rfl rfl (OL.nil (oH rfl ?_));refine AW.skip (AW.seq (AW.seq (AW.Dq 1 [dI 1,.sl [],dI a.sym,dI a.st,qG a.ini,qG a.fin,jW a.aN] rfl (VCs.Vt [dI 1,.sl [],dI a.sym,dI a.st,qG a.ini,qG a.fin,jW a.aN]) (AW.to [(1,rAu a),(2,.d (dB false))] [] (.cons (au (show V.X6 1 b1 [dI 1,.sl [],dI a.sym,dI a.st,qG a.ini,qG a.fin,jW a.aN] (.ptr 1 b1 0)=rAu a from FP)) .dD) .nil (AW.rg hE rfl (Ov fd.gK rfl rfl (iE ce.dm rfl ?_)))))))
 refine mkF (vs:=[_]) rfl (bH rfl vL (PZ (l:=a.aN) (f:=F.nI) (caps:=[rAu a]) (p:=λ_=>false) (λx hx=>aQ8 (h.arc x hx) (Nat.le_trans (za.arc x hx) (by decide))) (by omega)) ?_)
 rw[any_false λx _=>rfl];refine OL.nil (oH rfl ?_);refine AW.skip (AW.sg hE rfl (Ov fd.jE rfl rfl (iD ag.Ring rfl (vs:=[_,_]) rfl (ay rfl) (Ov fd.qW rfl rfl (iE ce.aW rfl (bH rfl vL (WN (l:=a.ini) (λx hx=>Nat.le_trans (za.ini x hx) (by decide)) (by omega)) (aj rfl ?_)))))))
 refine OL.yes rfl (Ov fd.jE rfl rfl (OL.yes rfl (iD ag.Ring rfl (vs:=[_,_]) rfl (ay rfl) (OL.yes rfl (Ov fd.uw rfl rfl (OL.yes rfl (iE ce.aW rfl ?_)))))));exact OL.yes rfl (bH rfl vL (WN (l:=a.fin) (λx hx=>Nat.le_trans (za.fin x hx) (by decide)) (by omega)) (oK rfl rfl (aF rfl (OL.nil (AW.ret (aP.r ⟨_,.tmp rfl .nil,.le vR⟩))))))
theorem ad6 {a:Au}(h:a.Ok)(za:a.Sz 134217728 20)(s1:a.sym<=32)(s2:a.st<=64):ai P F.sW [yV a] (.mM [yV (UR a),.d (dI 0)]):=by
 have e0:=h.Jl;have e1:=h.ini;have e2:=h.fin;have e3:=za.num;refine ai.intro fn.sW (by rfl) (by rfl) (ay (by rfl)) λE hE=>(AW.sg hE rfl (iO rfl rfl λb1=>(al z.Auto rfl λb2=>(aF rfl (OL.nil (AW.seq (AW.sg hE rfl ?_)))))))
 refine aQ ag.Auto rfl rfl (vs:=[_,_,_,_,_,_,_]) rfl (ay rfl) (bH rfl .dD (aB4 h za s1 s2) (nt rfl (OL.nil (oH rfl ?_))));refine AW.skip (AW.seq (AW.dg 1 [0,1,2,3,4,5,6,7,8,9,10,11,12,13,14,15,16,17,18,19,20,21,22,23,24] ak hE rfl (by kernel_rfl) (OI.aK (os:=[_,_,_,_,_,_,_,_,_,_,_,_,_,_,_,_,_,_,_,_,_,_,_,_,_]) rfl ?_)))
 refine bC fd.jE rfl rfl (aQ ag.Ring rfl rfl (vs:=[_,_]) rfl (ay rfl) (bH rfl .dD (bo7) (bC fd.lX rfl rfl (aG ce.int rfl rfl rfl (bC fd.oz rfl rfl (aG ce.int rfl rfl rfl (bC fd.jE rfl rfl ?_)))))));refine aQ ag.Ring rfl rfl (vs:=[_,_]) rfl (ay rfl) (bC fd.qW rfl rfl (aG ce.aW rfl rfl rfl (bH rfl vL (aZ1 (l:=a.ini) (by omega) za.ini) (bC fd.jE rfl rfl (aQ ag.Ring rfl rfl (vs:=[_,_]) rfl (ay rfl) (bC fd.uw rfl rfl (aG ce.aW rfl rfl rfl ?_)))))))
 refine bH rfl vL (aZ1 (l:=a.fin) (by omega) za.fin) (bC fd.jE rfl rfl (aQ ag.Ring rfl rfl (vs:=[_,_]) rfl (ay rfl) (bC fd.gK rfl rfl (aG ce.dm rfl rfl rfl (bH rfl vL (aB1 (l:=a.aN) e3 za.arc) (L6 (cs:=[_,_,_,_,_,_,_]) z.Auto pl.Auto (lI (by exact X5 rfl) (lI (by exact uG rfl) (lI (by exact uG rfl) (lI (by exact uG rfl) (lI (by exact uG rfl) (lI (by exact uG rfl) (LZ))))))) (by rfl) (fA sz.Auto rfl rfl rfl rfl rfl (ay rfl) (cells2:=[_,_,_,_,_,_,_]) rfl ?_)))))))
 refine aF rfl (OL.nil ?_);exact AW.ret (aP.r ⟨_,.dN rfl rfl ag.Auto (ay rfl) (.tmp rfl .nil),_,.cons (.ag (.cons (.le vR) (.cons (.le vR) (.cons (.le vR) (.cons (.le vR) (.cons (.le vR) (.cons (.le vR) (.cons (.le vR) .nil)))))))) (.cons (.le vR) .nil),rfl⟩)
theorem aR2 {s:Nat}(hs:1<=s/\s<=32):ai P F.Cc [.d (ints []),.d (dI s)] (.d (dB true)):=by
 refine ai.intro fn.Cc (by rfl) (by rfl) (ay (by rfl)) λE hE=>(AW.sg hE rfl (aF rfl (OL.nil (AW.seq (AW.sg hE rfl (aj rfl (fF sl.ints rfl rfl ?_)))))))
 refine aj rfl (OL.nil (AW.block ?_));refine AW.aY (α:=Unit) [(0,_),(1,_),(7,_),(8,_)] [] (λ_u=>[(9,.d (dI 0))]) (λ_u=>[]) (λ_u=>True) (λ_u=>0) () (.cons (di rfl) (.cons (di rfl) (.cons (di rfl) (.cons (di rfl) .nil)))) .nil ⟨trivial,.dD,.nil⟩ ?_;intro _ _;refine AW.sg hE rfl (bG rfl rfl rfl (OL.nil (AW.seq (AW.cond rfl (λhno=>absurd hno (by simp)) (λ_=>?_)))))
 refine AW.exit (AW.sg hE rfl (aj rfl (qX rfl rfl (c:=true) (by exact decide_eq_true (by omega)) (aj rfl (OL.yes rfl (aj rfl (OL.yes rfl ?_)))))))
 refine yM rfl rfl (c:=true) (by exact decide_eq_true (by omega)) (oK rfl rfl (aj rfl (OL.yes rfl (aj rfl (OL.yes rfl (fF sl.ints rfl rfl (OL.yes rfl ?_)))))))
 exact yM rfl rfl (c:=true) (by rfl) (oK rfl rfl (aF rfl (OL.nil (AW.ret (aP.r ⟨_,.tmp rfl .nil,.le vR⟩)))))
theorem aR3 {x:bU}(hx:1<=x.l):ai P F.uH [KU x] (.d (dB false)):=by
 refine ai.intro fn.uH (by rfl) (by rfl) (ay (by rfl)) λE hE=>(AW.sg hE rfl (iO rfl rfl λb1=>(aF rfl (OL.nil (AW.sg hE rfl (bC fd.DK rfl rfl (aG ce.int rfl rfl rfl ?_)))))))
 exact fG rfl rfl (c:=false) (by exact decide_eq_false (by omega)) (aF rfl (OL.nil (AW.ret (aP.r ⟨_,.tmp rfl .nil,.le vR⟩))))
theorem be0 {a:Au}(h:a.Ok)(za:a.Sz 134217728 20)(s1:a.sym<=32)(s2:a.st<=64):ai P F.BQ [yV a,.d (ints [])] (.mM [yV (UR a),.d (dI 0)]):=by
 have e0:=h.Jl;have e1:=h.ini;have e2:=h.fin;have e3:=za.num;have tl:=Ah a.aN;refine ai.intro fn.BQ (by rfl) (by rfl) (ay (by rfl)) λE hE=>(AW.sg hE rfl (iO rfl rfl λb2=>(al z.Auto rfl λb4=>(aF rfl (OL.nil (AW.sg hE rfl (aQ ag.Auto rfl rfl (vs:=[_,_,_,_,_,_,_]) rfl (ay rfl) ?_)))))))
 refine bH rfl .dD (ad6 h za s1 s2) (Di rfl (ex rfl rfl (ex rfl rfl (al z.Auto rfl λb6=>(fA sz.Auto rfl rfl rfl rfl rfl (ay rfl) (cells2:=[_,_,_,_,_,_,_]) rfl (aF rfl (OL.nil ?_)))))));refine AW.seq (AW.block (AW.sg hE rfl (aj rfl (eX rfl rfl (c:=false) (by exact kY (by omega)) (aF rfl (OL.nil (oH rfl ?_)))))))
 refine AW.sg hE rfl (bC fd.gK rfl rfl (aG ce.dm rfl rfl rfl (bH rfl vL (PZ (l:=(UR a).aN) (f:=F.uH) (caps:=[]) (p:=λ_=>false) (λx hx=>aR3 (Y3 h x hx)) (by show (dK a.aN).length<=_;omega)) ?_)))
 rw[any_false λx _=>rfl];refine aF rfl (OL.nil (oH rfl ?_));refine AW.sg hE rfl (aj rfl (bC fd.lX rfl rfl (aG ce.int rfl rfl rfl (bH rfl vL (aR2 (s:=a.sym) ⟨e0,s1⟩) (nt rfl (aF rfl (OL.nil ?_)))))));refine oH rfl ?_;refine AW.skip (AW.sg hE rfl (aQ ag.Auto rfl rfl (vs:=[_,_,_,_,_,_,_]) rfl (ay rfl) (fA sz.Auto rfl rfl rfl rfl rfl (ay rfl) (cells2:=[_,_,_,_,_,_,_]) rfl (aF rfl (OL.nil ?_)))));exact AW.ret (aP.r ⟨_,.dN rfl rfl ag.Auto (ay rfl) (.tmp rfl .nil),_,.cons (.ag (.cons (.le vR) (.cons (.le vR) (.cons (.le vR) (.cons (.le vR) (.cons (.le vR) (.cons (.le vR) (.cons (.le vR) .nil)))))))) (.cons (.le vR) .nil),rfl⟩)
theorem aB5 {e:Int}:ai P F.Jq [.d (dB true),.d (dI e)] (.d (dI 0)):=by
 refine ai.intro fn.Jq (by rfl) (by rfl) (ay (by rfl)) λE hE=>(AW.sg hE rfl (aF rfl (OL.nil (AW.seq (AW.sg hE rfl (aj rfl (OL.nil ?_)))))))
 refine Hr rfl ?_;exact AW.sg hE rfl (aF rfl (OL.nil (AW.ret (aP.r ⟨_,.tmp rfl .nil,.le vR⟩))))
theorem aR4 {a:Au}(h:a.Ok)(za:a.Sz 134217728 20)(s1:a.sym<=32)(s2:a.st<=64):ai P F.qM [yV a] (.d (dI 0)):=by
 refine ai.intro fn.qM (by rfl) (by rfl) (ay (by rfl)) λE hE=>(AW.sg hE rfl (iO rfl rfl λb1=>(aF rfl (OL.nil (AW.sg hE rfl (aQ ag.Auto rfl rfl (vs:=[_,_,_,_,_,_,_]) rfl (ay rfl) (bH rfl vL (aB4 h za s1 s2) ?_)))))))
 exact bH rfl vL (aB5) (aF rfl (OL.nil (AW.ret (aP.r ⟨_,.tmp rfl .nil,.le vR⟩))))
theorem aR5 {a:Au}(h:a.Ok)(za:a.Sz 134217728 20)(s1:a.sym<=32)(s2:a.st<=64):ai P F.qN [yV a] (.d (dI 0)):=by
 refine ai.intro fn.qN (by rfl) (by rfl) (ay (by rfl)) λE hE=>(AW.sg hE rfl (iO rfl rfl λb1=>(aF rfl (OL.nil (AW.sg hE rfl (bC fd.jE rfl rfl (bC fd.lD rfl rfl ?_)))))))
 exact aG ce.int rfl rfl rfl (fG rfl rfl (c:=true) (by exact decide_eq_true (by omega)) (bH rfl vL (aB5) (aF rfl (OL.nil (AW.ret (aP.r ⟨_,.tmp rfl .nil,.le vR⟩))))))
theorem aR6 {a:Au}(h:a.Ok)(za:a.Sz 134217728 20)(s1:a.sym<=32)(s2:a.st<=64):ai P F.qQ [yV a] (.d (dI 0)):=by
 refine ai.intro fn.qQ (by rfl) (by rfl) (ay (by rfl)) λE hE=>(AW.sg hE rfl (iO rfl rfl λb1=>(aF rfl (OL.nil (AW.sg hE rfl (aQ ag.Auto rfl rfl (vs:=[_,_,_,_,_,_,_]) rfl (ay rfl) (bH rfl (.cons vR (.cons bW.mt .nil)) (be0 h za s1 s2) ?_)))))))
 refine Di rfl (ex rfl rfl (ex rfl rfl (al z.Auto rfl λb3=>(fA sz.Auto rfl rfl rfl rfl rfl (ay rfl) (cells2:=[_,_,_,_,_,_,_]) rfl (aF rfl (OL.nil (AW.sg hE rfl ?_)))))));exact aj rfl (aF rfl (OL.nil (AW.ret (aP.r ⟨_,.tmp rfl .nil,.le vR⟩))))
theorem gq.frame {P:Program}{f:Nat}{args:List V}{M Mc:Mem}{res:V}(hc:∀ id blk,Mc id=some blk->M id=some blk)(h:gq P f args Mc res Mc):gq P f args M res M :=
 ⟨h.1,λF w vals hS hv=>(h.2 F w vals (Ei hS hc) hv).mono λe w' ⟨v,F',he,ha,hs⟩=>by
  have k:=After.over hS hc (λ_ h=>h) ha;rw[over_self hc] at k;exact⟨v,F',he,k,hs⟩⟩
theorem ai.toM {P:Program}{f:Nat}{args:List V}{M:Mem}{res:V}(h:ai P f args res):gq P f args M res M:=by
 refine gq.frame (Mc:=jH) (λ_ _ h=>by cases h) ⟨h.1,λF w vals hS hv=>(h.2 F w vals hS.sF hv).mono λe w' ⟨v,F',he,hx,hs⟩=>⟨v,F',he,⟨hx.grow.mono (λi h=>h.elim),hx.le,Dl hx.sF,λk a b=>.inl (hx.new k a b),λk ho=>(iI k ho).elim⟩,hs⟩⟩
abbrev fC (f:Nat)(us:List Value):D:=.sc (.func (.func f) #[] us.toArray)
theorem ad7 {F:Hp}{v:Value}{f:Nat}{cs:List V}{us:List Value}(h:dF F v (.fn f cs))(he:∀ (xs:List Value),xs.length=cs.length->(∀ (i:Nat) (c:V) (u:Value),cs[i]? = some c->xs[i]? = some u->dF F u c)->xs=us):v=.func (.func f) #[] us.toArray:=by
 cases h with
 | fn hl hr=>rw[he _ hl hr]
theorem Y4 {f:Nat}:VC (.fn f []) (fC f []):=λF v h=>by
 rw[ad7 (us:=[]) h λxs hl _=>Hl hl];exact⟨.sc rfl,rfl⟩
theorem be1 {f id b:Nat}:VC (.fn f [.ptr id b 0]) (fC f [.pointer (some ⟨b,0,none⟩)]):=λF v h=>by
 rw[ad7 (us:=[.pointer (some ⟨b,0,none⟩)]) h λxs hl hr=>by
  match xs,hl with
  | [x],_ =>
   have h1:=hr 0 _ x rfl rfl;cases h1;rfl]
 exact⟨.sc rfl,rfl⟩
theorem UU {f:Nat}:bW (.d (fC f [])) (.fn f []):=λF v h=>by
 cases h with
 | d h _=>cases h;exact .fn (us:=[]) rfl λi c u hc _=>by simp at hc
theorem aR7 {f id b:Nat}:bW (.d (fC f [.pointer (some ⟨b,0,none⟩)])) (.fn f [.ptr id b 0]):=λF v h=>by
 cases h with
 | d h _ =>
  cases h
  refine .fn (us:=[.pointer (some ⟨b,0,none⟩)]) rfl λi c u hc hu=>?_
  match i,hc,hu with
  | 0,hc,hu=>cases hc;cases hu;exact .ptr
  | i+1,hc,hu=>simp at hc
abbrev aR8 (l:List Au):D:=.sl (l.map dAu)
theorem SE {a:Au}:VD (yV a) (dAu a):=VD.ag (.cons (VC.d _) (.cons (VC.d _) (.cons (VC.d _) (.cons (VC.d _) (.cons (VC.d _) (.cons (VC.d _) (.cons (VC.d _) .nil)))))))
abbrev aB6 (b:Nat)(l:List Au):iF:=.box b T.uI [.d (aR8 l)]
structure Au.Fit (a:Au) (s:Nat):Prop where
 ok:a.Ok
 sz:a.Sz 134217728 20
 sym:a.sym=s
 s1:a.sym<=32
 st:a.st<=64
def aR9 (b:Nat):List (Nat × List Value):=[(F.qM,[]),(F.qN,[]),(F.qQ,[]),(F.qR,[.pointer (some ⟨b,0,none⟩)])]
abbrev bo8 (b:Nat):List D:=(aR9 b).map λp:Nat × List Value=>fC p.1 p.2
def be3 (i:Nat):Nat:=if i=0 then F.qM else if i=1 then F.qN else if i=2 then F.qQ else F.qR
def aS0 (b i:Nat):List V:=if i=3 then [.ptr 1 b 0] else []
theorem aS1 {b i:Nat}(hi:i<4):bW (.d (fC ((aR9 b).getD i default).1 ((aR9 b).getD i default).2)) (.fn (be3 i) (aS0 b i)):=by
 rcases (by omega:i=0 \/ i=1 \/ i=2 \/ i=3) with rfl|rfl|rfl|rfl
 .exact UU
 .exact UU
 .exact UU
 .exact aR7
theorem aS2 {a:Au}{l:List Au}{b:Nat}(nl:1<=l.length)(hs:a.sym=(l.getD 0 default).sym):gq P F.qR [yV a,.ptr 1 b 0] (mem1 1 (aB6 b l)) (.d (dI 0)) (mem1 1 (aB6 b l)):=by
 refine gq.intro fn.qR (by rfl) (by rfl) (ay (by rfl)) λE hE=>(AW.sg hE rfl (iO rfl rfl λb2=>(aF rfl (OL.nil (AW.seq (AW.dg 1 [0,1,2,3,4,5,6,7,8] ak hE rfl (by kernel_rfl) (OI.aK (os:=[_,_,_,_,_,_,_,_,_]) rfl ?_)))))))
 refine bC fd.lX rfl rfl (aG ce.int rfl rfl rfl (aG ce.uI rfl rfl rfl (Ux 0 sl.uI default rfl rfl rfl (by omega) rfl rfl (Ov fd.lX rfl rfl (iE ce.int rfl (fG rfl rfl (c:=true) (by exact decide_eq_true (by omega)) (bH rfl vL (aB5) ?_)))))))
 exact aF rfl (OL.nil (AW.ret ⟨⟨_,.tmp rfl .nil,.le vR⟩,fP rfl⟩))
theorem aS3 {a:Au}{s b i:Nat}{l:List Au}(hl:∀ x,x ∈ l->Au.Fit x s)(nl:1<=l.length)(ha:a ∈ l)(hi:i<4):gq P (be3 i) (yV a::aS0 b i) (mem1 1 (aB6 b l)) (.d (dI 0)) (mem1 1 (aB6 b l)):=by
 have f:=hl a ha;have f0:=hl _ (getD_mem (show 0<l.length by omega) default)
 rcases (by omega:i=0 \/ i=1 \/ i=2 \/ i=3) with rfl|rfl|rfl|rfl
 .exact ai.toM (aR4 f.ok f.sz f.s1 f.st)
 .exact ai.toM (aR5 f.ok f.sz f.s1 f.st)
 .exact ai.toM (aR6 f.ok f.sz f.s1 f.st)
 .exact aS2 nl (f.sym.trans f0.sym.symm)
set_option maxHeartbeats 800000 in
theorem Y5 {l:List Au}{s:Nat}(hl:∀ a,a ∈ l->Au.Fit a s)(nl:1<=l.length/\l.length<=64):ai P F.BL [.d (aR8 l)] (.d (dI 0)):=by
 have n1:=nl.1;have n2:=nl.2;refine ai.intro fn.BL (by rfl) (by rfl) (ay (by rfl)) λE hE=>?_
 refine AW.sg hE rfl ?_;refine bxD rfl rfl λb1=>?_;refine aF rfl ?_;refine OL.nil ?_;refine AW.sg hE rfl ?_;refine mkF (vs:=[_]) rfl ?_;refine ltN (ys:=bo8 b1) sl.Bl rfl (pdC Y4.vd (pdC Y4.vd (pdC Y4.vd (pdC be1.vd pdN)))) rfl (by decide) (by decide) (λy hy=>by obtain⟨p,_,rfl⟩:=kK hy;rfl) (aF rfl (OL.nil (AW.seq (AW.sg hE rfl (aj rfl (fF sl.Bl rfl rfl (aj rfl ?_)))))))
 refine OL.nil (AW.block ?_);refine AW.aY (α:=Nat) [(1,_),(11,_),(12,_)] [(1,_)] (λi=>[(13,.d (dI i))]) (λi=>[]) (λi=>i<=4) (λi=>4-i) 0 (.cons (iw rfl) (.cons (di rfl) (.cons (di rfl) .nil))) (.cons (je rfl) .nil) ⟨Nat.zero_le _,.dD,.nil⟩ ?_;intro i h1;have h1:i<=4:=h1;have hk4:(aR9 b1).length=4:=rfl;refine AW.sg hE rfl (bG rfl rfl rfl (OL.nil (AW.seq (AW.cond rfl (λCO=>?_) (λCO=>?_)))))
 .try simp only[fD] at CO
  refine AW.skip (AW.seq (AW.block (AW.sg hE rfl (dR sl.Bl default rfl rfl (by omega) rfl rfl (iE ce.NH rfl (aF rfl (OL.nil ?_)))))))
  refine AW.seq ?_;refine AW.to [(1,.ptr 1 b1 0),(5,.fn (be3 i) (aS0 b1 i)),(11,.d (.sl (bo8 b1))),(12,.d (dI 4)),(13,.d (dI i))] [(1,aB6 b1 l)] (.cons vR (.cons (aS1 (by omega)) .yU)) (.cons rfl .nil) ?_
  refine AW.rg hE rfl (aG ce.uI rfl rfl rfl (fF sl.uI rfl rfl (aj rfl (OL.nil (AW.block ?_)))));refine AW.aY (α:=Nat) [(1,_),(5,_),(11,_),(12,_),(13,_),(17,_),(18,_)] [(1,_)] (λj=>[(19,.d (dI j))]) (λj=>[]) (λj=>j<=l.length) (λj=>l.length-j) 0 (.cons (iw rfl) (.cons (KF rfl) (.cons (di rfl) (.cons (di rfl) (.cons (di rfl) (.cons (di rfl) (.cons (di rfl) .nil))))))) (.cons (je rfl) .nil) ⟨Nat.zero_le _,.dD,.nil⟩ ?_;intro j h2;have h2:j<=l.length:=h2;refine AW.sg hE rfl (bG rfl rfl rfl (OL.nil (AW.seq (AW.cond rfl (λh20=>?_) (λh20=>?_)))))
  .try simp only[fD] at h20
   refine AW.skip (AW.seq (AW.block (AW.sg hE rfl (dR sl.uI default rfl rfl (by omega) rfl rfl (iD ag.Auto rfl (vs:=[_,_,_,_,_,_,_]) rfl (ay rfl) (al z.Auto rfl λb7=>(fA sz.Auto rfl rfl rfl rfl rfl (ay rfl) (cells2:=[_,_,_,_,_,_,_]) rfl ?_)))))))
   refine OL.nil (AW.sg hE rfl (QU rfl (aQ ag.Auto rfl rfl (vs:=[_,_,_,_,_,_,_]) rfl (ay rfl) (aj1 (qY:=yV (l.getD j default)::aS0 b1 i) rfl (.cons vR vL) (aS3 hl n1 (getD_mem (by omega) default) (by omega)) (fP rfl) (aF rfl (OL.nil (AW.sg hE rfl ?_)))))))
   refine aj rfl (eX rfl rfl (c:=false) (by exact kY (by omega)) (OL.nil (oH rfl ?_)))
   refine AW.skip (AW.rg hE rfl (aI rfl rfl (by omega) (aj rfl (OL.nil ?_))))
   exact AW.again (x:=j) (j+1) (by omega) ⟨by omega,Knows.app .rq7 .dD,dL.app (.cons rfl .nil) (.nil)⟩
  .try simp only[fD] at h20
   exact AW.exit (AW.rg hE rfl (aI rfl rfl (by omega) (aj rfl (OL.nil (AW.again (x:=i) (i+1) (by omega) ⟨by omega,Knows.app .yU .dD,dL.app (.cons rfl .nil) (.nil)⟩)))))
 .try simp only[fD] at CO
  exact AW.exit (AW.sg hE rfl (aF rfl (OL.nil (AW.ret (aP.r ⟨_,.tmp rfl .nil,.le vR⟩)))))

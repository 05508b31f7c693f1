/-
  Walks of packages automaton, words, weigh: normal forms, valid words (printed by mk2.py).
-/
import Derived.Test.YtnjoncgnjdkaoaaGreatDoorKMod83
set_option linter.unusedVariables false
set_option linter.unusedSimpArgs false
namespace Go.AL
open Go Go.BigFrame
structure dZ.Full (m:dZ):Prop where
 rows:∀ s,s<m.k->(m.Bj.getD s []).length=m.n
 cols:∀ s,s<m.k->∀ i,i<m.n->((m.Bj.getD s []).getD i []).length=m.n
theorem aA5 {n:Nat}{f:Nat->Nat->Rat}:(Gf n f).length=n:=by simp[Gf]
theorem aA6 {n i:Nat}{f:Nat->Nat->Rat}(hi:i<n):((Gf n f).getD i []).length=n:=by
 unfold Gf;rw[aK _ _ hi];simp
theorem Gi (l:List Au):(aY l).Full :=
 ⟨λs hs=>by
  rw[E8] at hs;show (((List.range _).map λs=>Gf (um l) (AP l s)).getD s []).length=_
  rw[aK _ _ hs,aA5];rfl,λs hs i hi=>by
  rw[E8] at hs;show ((((List.range _).map λs=>Gf (um l) (AP l s)).getD s []).getD i []).length=_
  rw[aK _ _ hs,aA6 (n:=um l) hi];rfl⟩
structure pK (n B:Nat) (rs:List bJ):Prop where
 ech:Ip n rs
 sz:Ko B rs
 len:∀ r,r ∈ rs->r.v.length=n
 cl:∀ (k:Nat) (r:bJ),rs[k]? = some r->r.c.length=k+1
section
variable {n B:Nat}{rs:List bJ}{w:List Rat}
theorem pK.nil:pK n B []:=⟨⟨λ_ h=>(by cases h),List.Pairwise.nil⟩,Ko.nil,λ_ h=>(by cases h),λ_ _ h=>(by cases h)⟩
theorem pK.grow (h:pK n B rs)(hw:w.length=n)(h1:1<=B)(hz:∀ i,AL.sz (w.getD i 0)<=B)(g:bg rs w=true):pK n B (rs++[newR rs w]):=by
 have hp:dV (aQ rs w)<(aQ rs w).length:=kK g;refine⟨h.ech.grow hw _ (by rw[kE,hw] at hp;exact hp) (ul hp),h.sz.grow h1 hz,λr hr=>?_,λk r hk=>?_⟩
 .rcases rD hr with hr|hr
  .exact h.len r hr
  .rw[kJ hr];show (aQ rs w).length=n;rw[kE,hw]
 .rcases Nat.lt_or_ge k rs.length with hi|hi
  .rw[List.getElem?_append_left hi] at hk;exact h.cl k r hk
  .rw[List.getElem?_append_right hi] at hk;rcases Nat.eq_zero_or_pos (k-rs.length) with h0|h0
   .rw[h0] at hk;cases hk
    show (TQ rs w).length=k+1
    rw[Q5];omega
   .rw[List.getElem?_eq_none (by rw[jL];exact h0)] at hk;cases hk
theorem pK.add (h:pK n B rs)(hw:w.length=n)(h1:1<=B)(hz:∀ i,AL.sz (w.getD i 0)<=B):pK n B (vw rs w):=by
 unfold vw
 split
 .exact h.grow hw h1 hz ‹_›
 .exact h
theorem pK.le (h:pK n B rs):rs.length<=n:=h.ech.len
end
structure DSt where
 o:Option (List Int)
 rs:List bJ
def keepD (m:dZ)(w:List Int)(y:DSt):Bool × DSt :=
 if y.o.isSome=true then (false,y) else if wW m w≠0 then (false,⟨some w,y.rs⟩) else (bg y.rs (bQ m w),⟨none,vw y.rs (bQ m w)⟩)
def bg5 (m:dZ)(Q:List (List Int))(y:DSt):Prop :=
 match y.o with
 | some w=>Dn m w/\w.length<=6
 | none=>∃ V K,Join m V K Q y.rs/\FN m K/\Dp K Q
structure Ol (m:dZ) (B:Nat) (Q:List (List Int)) (y:DSt):Prop where
 len:∀ q,q ∈ Q->q.length<=6
 sp:pK m.n B y.rs
 ans:bg5 m Q y
def muD (m:dZ)(Q:List (List Int))(y:DSt):Nat :=
 match y.o with
 | some _=>Q.length
 | none=>kG m Q y.rs
section
variable {m:dZ}{B:Nat}{Q V K:List (List Int)}{w:List Int}{y:DSt}{rs:List bJ}
theorem Dp.six (h:Dp K Q)(j:Join m V K Q rs)(n6:m.n<=6):∀ q,q ∈ Q->q.length<=6:=λq hq=>by
 have:=h.open_ q hq;have:=j.len;have:=j.le;omega
theorem Ol.start (m:dZ)(B:Nat):Ol m B [[]] ⟨none,[]⟩:=
 ⟨λq hq=>by rw[kJ hq];exact Nat.zero_le _,pK.nil,[],[],Join.start m,λ_ h=>(by cases h),Dp.start⟩
theorem Ol.next (ok:m.Ok)(n6:m.n<=6)(h1:1<=B)(hz:∀ i,sz ((bQ m w).getD i 0)<=B)(h:Ol m B (w::Q) y) :
  ((keepD m w y).1=true->Ol m B (Q++dh m.k w) (keepD m w y).2/\muD m (Q++dh m.k w) (keepD m w y).2<muD m (w::Q) y)/\((keepD m w y).1=false->Ol m B Q (keepD m w y).2/\muD m Q (keepD m w y).2<muD m (w::Q) y):=by
 obtain⟨o,rs⟩:=y;have hlq:∀ q,q ∈ Q->q.length<=6:=λq hq=>h.len q (List.mem_cons_of_mem _ hq);cases o with
 | some u =>
  have e:keepD m w ⟨some u,rs⟩ = (false,⟨some u,rs⟩):=if_pos rfl;rw[e];exact⟨λx=>(by cases x),λ_=>⟨⟨hlq,h.sp,h.ans⟩,Nat.lt_succ_self _⟩⟩
 | none =>
  obtain⟨V,K,j,hzk,hl⟩:∃ V K,Join m V K (w::Q) rs/\FN m K/\Dp K (w::Q):=h.ans;have hsp:pK m.n B rs:=h.sp;have hno:¬ ((⟨none,rs⟩:DSt).o.isSome=true):=λx=>by cases x
  by_cases hw:wW m w≠0
  .have e:keepD m w ⟨none,rs⟩ = (false,⟨some w,rs⟩):=by unfold keepD;rw[if_neg hno,if_pos hw]
   rw[e];refine⟨λx=>(by cases x),λ_=>⟨⟨hlq,hsp,j.MF.first hzk hw,h.len w vC⟩,?_⟩⟩
   show Q.length<kG m (w::Q) rs
   unfold kG;rw[List.length_cons];omega
  .have e:keepD m w ⟨none,rs⟩ = (bg rs (bQ m w),⟨none,vw rs (bQ m w)⟩):=by unfold keepD;rw[if_neg hno,if_neg hw]
   rw[e];have hadd:=hsp.add (xw ok w) h1 hz;have hw0:wW m w=0:=Decidable.byContradiction hw;refine⟨λhg=>?_,λhg=>?_⟩
   .have hg:bg rs (bQ m w)=true:=hg;show Ol m B (Q++dh m.k w) ⟨none,vw rs (bQ m w)⟩ /\ kG m (Q++dh m.k w) (vw rs (bQ m w))<kG m (w::Q) rs
    rw[show vw rs (bQ m w)=rs++[newR rs (bQ m w)] from if_pos hg] at hadd ⊢
    have j2:=j.keep ok hg;have hl2:Dp (K++[w]) (Q++dh m.k w):=hl.keep;exact⟨⟨hl2.six j2 n6,hadd,_,_,j2,hzk.add hw0,hl2⟩,E5 ok j hg⟩
   .have hg:bg rs (bQ m w)=false:=hg;show Ol m B Q ⟨none,vw rs (bQ m w)⟩ /\ kG m Q (vw rs (bQ m w))<kG m (w::Q) rs
    rw[show vw rs (bQ m w)=rs from if_neg (by rw[hg];exact Bool.false_ne_true)] at hadd ⊢
    exact⟨⟨hlq,hsp,_,_,j.drop ok hg,hzk,hl.drop⟩,yA⟩
theorem Ol.done (h:Ol m B [] y):y.o=Q8 m:=by
 obtain⟨o,rs⟩:=y;cases o with
 | some u=>exact (MK (o:=some u) h.ans.1).symm
 | none =>
  obtain⟨V,K,j,hzk,_⟩:∃ V K,Join m V K [] rs/\FN m K/\Dp K []:=h.ans;exact (MK (o:=none) λw hw=>j.MF.none hzk w hw).symm
structure MZ where
 ks:List (List Int)
 rs:List bJ
def xF (m:dZ)(w:List Int)(y:MZ):Bool × MZ:=if bg y.rs (bQ m w)=true then (true,⟨y.ks++[w],y.rs++[newR y.rs (bQ m w)]⟩) else (false,y)
structure IZ (m:dZ) (B:Nat) (Q:List (List Int)) (y:MZ):Prop where
 sp:pK m.n B y.rs
 join:∃ V,Join m V y.ks Q y.rs
 len:Dp y.ks Q
theorem IZ.start (m:dZ)(B:Nat):IZ m B [[]] ⟨[],[]⟩:=⟨pK.nil,⟨[],Join.start m⟩,Dp.start⟩
theorem IZ.six {y:MZ}(h:IZ m B Q y)(n6:m.n<=6):∀ q,q ∈ Q->q.length<=6:=have ⟨_,j⟩:=h.join;h.len.six j n6
theorem IZ.few {y:MZ}(h:IZ m B Q y):y.ks.length=y.rs.length/\y.ks.length<=m.n:=by
 obtain⟨V,j⟩:=h.join;have:=j.len;have:=j.le;omega
theorem IZ.five {y:MZ}(h:IZ m B Q y)(n6:m.n<=6):∀ q,q ∈ y.ks->q.length<=5:=λq hq=>by
 obtain⟨i,hi,rfl⟩:=List.mem_iff_getElem.1 hq;have:=h.len.kept i _ (kL hi);have:=h.few;omega
theorem IZ.next {y:MZ}(ok:m.Ok)(h1:1<=B)(hz:∀ i,sz ((bQ m w).getD i 0)<=B)(h:IZ m B (w::Q) y) :
  ((xF m w y).1=true->IZ m B (Q++dh m.k w) (xF m w y).2/\kG m (Q++dh m.k w) (xF m w y).2.rs<kG m (w::Q) y.rs)/\((xF m w y).1=false->IZ m B Q (xF m w y).2/\kG m Q (xF m w y).2.rs<kG m (w::Q) y.rs):=by
 obtain⟨V,j⟩:=h.join;unfold xF;by_cases hg:bg y.rs (bQ m w)=true
 .rw[if_pos hg];exact⟨λ_=>⟨⟨h.sp.grow (xw ok w) h1 hz hg,⟨_,j.keep ok hg⟩,h.len.keep⟩,E5 ok j hg⟩,λx=>by cases x⟩
 .rw[if_neg hg];have hg:bg y.rs (bQ m w)=false:=by simpa using hg
  exact⟨λx=>(by cases x),λ_=>⟨⟨h.sp,⟨_,j.drop ok hg⟩,h.len.drop⟩,yA⟩⟩
end
structure BB (n:Nat) (C:List (List Rat)) (rs:List bJ):Prop where
 rows:∀ r,r ∈ rs->bK n C (vf r.v)
 kept:∀ c,c ∈ C->bK n (lu rs) (vf c)
section
variable {n B:Nat}{C:List (List Rat)}{rs:List bJ}{w:List Rat}
theorem BB.nil:BB n [] []:=⟨λ_ h=>(by cases h),λ_ h=>(by cases h)⟩
theorem BB.add (j:BB n C rs)(e:Ip n rs)(hl:w.length=n):BB n (C++[w]) (vw rs w):=by
 have hs:=Bh rs w;rw[hl] at hs;have hm:∀ {u:Nat->Rat},bK n C u->bK n (C++[w]) u:=λh=>h.mono λb hb=>List.mem_append.2 (.inl hb);have hC:∀ {u:Nat->Rat},bK n (lu rs) u->bK n (C++[w]) u:=λh=>h.trans λb hb=>by
  obtain⟨r,hr,rfl⟩:=jY hb;exact hm (j.rows r hr)
 unfold vw
 split
 .refine⟨λr hr=>?_,λu hu=>?_⟩
  .rcases rD hr with hr|hr
   .exact hm (j.rows r hr)
   .rw[kJ hr];have h1:bK n (C++[w]) (vf w):=.mem (List.mem_append.2 (.inr (List.mem_singleton.2 rfl)));refine (h1.plus ((hC hs).smul (-1))).congr λi _=>?_;show (aQ rs w).getD i 0=w.getD i 0 + -1*(w.getD i 0-(aQ rs w).getD i 0)
    rw[Rat.neg_mul,Rat.one_mul,Rat.neg_sub,Rat.sub_eq_add_neg,Rat.add_comm (w.getD i 0),Rat.add_assoc,Rat.neg_add_cancel,Rat.add_zero]
  .rw[IJ];rcases rD hu with hu|hu
   .exact (j.kept u hu).mono λb hb=>List.mem_append.2 (.inl hb)
   .rw[kJ hu];have h1:=hs.mono (C:=lu rs++[aQ rs w]) λb hb=>List.mem_append.2 (.inl hb);have h2:bK n (lu rs++[aQ rs w]) (vf (aQ rs w)):=.mem (List.mem_append.2 (.inr (List.mem_singleton.2 rfl)));refine (h1.plus h2).congr λi _=>?_;show w.getD i 0=w.getD i 0-(aQ rs w).getD i 0+(aQ rs w).getD i 0
    rw[Rat.sub_add_cancel]
 .rename_i hg;refine⟨λr hr=>hm (j.rows r hr),λu hu=>?_⟩;rcases rD hu with hu|hu
  .exact j.kept u hu
  .rw[kJ hu];exact (Bv e hl).1 (by simpa using hg)
end
def spR (m:dZ)(L K:List (List Int)):List bJ:=K.foldl (λrs u=>vw rs (dJ m L u)) []
section
variable {m:dZ}{B e:Nat}{L K V V2:List (List Int)}{u:List Int}{r1 r2:List bJ}
theorem aj8:spR m L (K++[u])=vw (spR m L K) (dJ m L u):=by unfold spR;rw[List.foldl_append];rfl
theorem sK:(dJ m L u).length=L.length:=by simp[dJ]
theorem aj9 (h1:1<=B)(hz:∀ u,u ∈ K->∀ i,sz ((dJ m L u).getD i 0)<=B):pK L.length B (spR m L K)/\BB L.length (K.map (dJ m L)) (spR m L K):=by
 induction hn:K.length generalizing K with
 | zero=>rw[Gt hn];exact⟨pK.nil,BB.nil⟩
 | succ k ih =>
  obtain⟨P,x,rfl⟩:∃ u x,K=u++[x]:=⟨K.dropLast,K.getLast (λh=>by rw[h] at hn;cases hn),(List.dropLast_concat_getLast _).symm⟩
  rw[iU,jL] at hn;obtain⟨a,b⟩:=ih (λu hu=>hz u (List.mem_append.2 (.inl hu))) (by omega)
  rw[aj8,List.map_append];exact⟨a.add sK h1 (hz x (List.mem_append.2 (.inr (List.mem_singleton.2 rfl)))),b.add a.ech sK⟩
theorem Un (ok:m.Ok)(h1:1<=B)(hz:∀ u,u ∈ K->∀ i,sz ((dJ m L u).getD i 0)<=B)(j:Join m V K [] r1)(j2:Join (bI m) V2 L [] r2):(spR m L K).length=Bz m.k (wW m):=by
 obtain⟨a,b⟩:=aj9 h1 hz;have h:=Gg ok j j2 a.ech b.rows λu hu=>b.kept _ (List.mem_map.2 ⟨u,hu,rfl⟩);refine (Hr ?_).symm;have e:zD m.k (wW m)=λ(u l:Wd m.k)=>jP m u.1 l.1:=by
  funext u l;exact (yg l.1 u.1 l.2).symm
 rw[e];exact h
end
section
variable {a b:Au}{B N e:Nat}
theorem H6 {α:Type}{f:α->Rat}{C:Nat}:∀ {l:List α},(∀ x,x ∈ l->sz (f x)<=C)->sz (jD f l)<=l.length*(C+1)+1
 | [],_=>by rw[jD,fK];simp
 | x::l,h=>by
  have h1:=H6 (f:=f) (l:=l) λy hy=>h y (List.mem_cons_of_mem _ hy);have h2:=h x vC;have:=AB (f x) (jD f l);rw[jD,List.length_cons,Nat.succ_mul];omega
theorem aA7 {l:List bD}(h1:1<=B)(hz:∀ x,x ∈ l->sz x.q<=B)(s i j:Nat):sz (jd l s i j)<=l.length*(B+1)+1:=by
 refine H6 λx hx=>?_
 split
 .exact hz x hx
 .rw[fK];exact h1
structure Au.Oi (a:Au):Prop where
 st:a.st<=6
 ini:Small 24 a.ini
 fin:Small 24 a.fin
 ent:∀ s i j,sz (jd a.aP s i j)<=24
theorem Au.Sz.few (h:a.Sz 1 10)(hs:a.st<=6):a.Oi :=
 ⟨hs,λq hq=>Nat.le_trans (h.ini q hq) (by decide),λq hq=>Nat.le_trans (h.fin q hq) (by decide),λs i j=>by
  have h1:=aA7 (B:=1) (by decide) h.arc s i j
  have:=h.num;have:=Nat.mul_le_mul_right 2 this;omega⟩
theorem Wu:∀ {l:List Au},(∀ a,a ∈ l->Small 24 a.fin)->Small 24 (ay8 l)
 | [],_=>λq hq=>by cases hq
 | a :: r, h => λq hq => by
  rcases rD hq with hq|hq
  .exact h a vC q hq
  .obtain⟨b,hb,hq⟩:=List.mem_flatMap.1 hq;obtain⟨x,hx,rfl⟩:=jY hq;rw[IA];exact h b (List.mem_cons_of_mem _ hb) x hx
theorem X0:∀ {l:List Au},(∀ a,a ∈ l->∀ s i j,sz (jd a.aP s i j)<=24)->∀ s i j,sz (AP l s i j)<=24
 | [],_,s,i,j=>by rw[AP,fK];decide
 | a :: r, h, s, i, j => by
  rw[AP]
  split
  .split
   .exact h a vC s i j
   .rw[fK];decide
  .split
   .rw[fK];decide
   .exact X0 (λb hb=>h b (List.mem_cons_of_mem _ hb)) ..
theorem Na {m:dZ}{s i j:Nat}(h:(m.Bj.getD s []).length<=i \/ ((m.Bj.getD s []).getD i []).length<=j):sG m s i j=0:=by
 unfold sG;rcases h with h|h
 .rw[gI (i:=i),List.getElem?_eq_none h];rfl
 .exact uq h
theorem Eh {l:List Au}(hf:∀ a,a ∈ l->a.Oi)(hn:um l<=6)(hk:(l.getD 0 default).sym<=4):(aY l).Sz 24:=by
 refine⟨hn,by rw[E8];exact hk,by decide,by decide,λi=>?_,λi=>?_,λs i j=>?_⟩
 .refine Small.get (λq hq=>?_) (by decide) i
  obtain⟨a,ha,hq⟩:=List.mem_flatMap.1 hq;exact (hf a ha).ini q hq
 .exact (Wu λa ha=>(hf a ha).fin).get (by decide) i
 .have f:=Gi l;rcases Nat.lt_or_ge s (aY l).k with hs|hs
  .rcases Nat.lt_or_ge i (aY l).n with hi|hi
   .rcases Nat.lt_or_ge j (aY l).n with hj|hj
    .rw[IK (by rw[E8] at hs;exact hs) hi hj]
     exact X0 (λa ha=>(hf a ha).ent) ..
    .rw[Na (.inr (by rw[f.cols s hs i hi];exact hj)),fK];decide
   .rw[Na (.inl (by rw[f.rows s hs];exact hi)),fK];decide
  .rw[Na (.inl (by rw[gI,List.getElem?_eq_none hs];exact Nat.zero_le _)),fK];decide
end
end Go.AL
namespace Go.Proofs.YtnjoncgnjdkaoaaGreatDoor
open Go Go.AL
theorem take_snoc {α:Type}{l:List α}{i:Nat}(d:α)(hi:i<l.length):l.take (i+1)=l.take i++[l.getD i d]:=by
 rw[List.take_succ_eq_append_getElem hi,gI,kL hi];rfl
def jX (a:Au):Au:={ a with aP:=vH a.aP }
theorem Nb {a:Au}(h:a.Ok):∀ x,x ∈ (jX a).aP->1<=x.l:=ig.tidy (p:=λ_ l _=>1<=l) λx hx=>(h.arc x hx).2.2.1
theorem I4 (l:List bD):(vH l).length<=l.length:=by
 unfold vH RN;refine Nat.le_trans (List.length_filter_le ..) ?_;have h:=Hy (sortA l) (sortA l).length;unfold outA at h;rw[List.take_length] at h;have:(sortA l).length=l.length:=vY ..;omega
theorem aA8 {l:List bD}{f:Nat}{caps:List V}{p:bD->Bool}(hf:∀ x,x ∈ l->aj P f (Hu x::caps) (.d (dB (p x))))(nl:l.length<=1099511627776):aj P F.fZ [.d (lK l),.fn f caps] (.d (dI (GZ p l))):=by
 refine aj.intro fn.fZ (by rfl) (by rfl) (aA (by rfl)) λE hE=>(AW.sg hE rfl (aC rfl (OL.nil (AW.seq (AW.sg hE rfl (ai rfl (fJ sl.dm rfl rfl ?_)))))))
 refine ai rfl (OL.nil (AW.block ?_));refine AW.aU (α:=Nat) [(0,_),(1,_),(7,_)] [] (λi=>[(8,.d (dI i))]) (λi=>[]) (λi=>i<=l.length/\∀ j,j<i->p (l.getD j default)=false) (λi=>l.length-i) 0 (.cons (bY rfl) (.cons (OO rfl) (.cons (bY rfl) .nil))) .nil ⟨⟨Nat.zero_le _,λj hj=>by omega⟩,.di,.nil⟩ ?_
 rintro i ⟨h1,h2⟩
 refine AW.sg hE rfl (aX rfl rfl rfl (OL.nil (AW.seq (AW.cond rfl (λh9=>?_) (λh9=>?_)))))
 .try simp only[eG] at h9
  refine AW.skip (AW.seq (AW.block (AW.sg hE rfl (ai rfl (aC rfl (OL.nil (AW.sg hE rfl ?_)))))));refine NY rfl (ai rfl (ai rfl (fM sl.dm default rfl rfl (by omega) rfl rfl (jS ag.ny rfl (vs:=[_,_,_,_,_,_,_,_,_,_,_]) rfl (aA rfl) (bF rfl (.cons vR vL) (hf (l.getD i default) (getD_mem (by omega) _)) (OL.nil (AW.cond rfl (λh16=>?_) (λh16=>?_))))))))
  .have h16:=h16;exact AW.sg hE rfl (ai rfl (aC rfl (OL.nil (AW.ret (aO.r ⟨_,.tmp rfl .nil,.le (bG.int ((BZ (by omega) default h16 h2).symm))⟩)))))
  .have h16:=h16;refine AW.skip (AW.rg hE rfl (aH rfl rfl (by omega) (ai rfl (OL.nil ?_))))
   exact AW.again (x:=i) (i+1) (by omega) ⟨⟨by omega,λj hj=>by rcases Nat.lt_or_ge j i with h|h;exact h2 j h;obtain rfl:j=i:=(by omega);exact h16⟩,Knows.app .xf .di,.nil⟩
 .try simp only[eG] at h9
  exact AW.exit (AW.sg hE rfl (aC rfl (OL.nil (AW.ret (aO.r ⟨_,.tmp rfl .nil,.le (bG.int ((EG default λj hj=>h2 j (by omega)).symm))⟩)))))
theorem Nc {l:List bD}{f:Nat}{caps:List V}{p:bD->Bool}(hf:∀ x,x ∈ l->aj P f (Hu x::caps) (.d (dB (p x))))(nl:l.length<=1099511627776):aj P F.iM [.d (lK l),.fn f caps] (.d (dB (l.any p))):=by
 refine aj.intro fn.iM (by rfl) (by rfl) (aA (by rfl)) λE hE=>(AW.sg hE rfl (aC rfl (OL.nil (AW.sg hE rfl (ai rfl (NY rfl (bF rfl vL (aA8 hf nl) ?_)))))))
 exact ql rfl rfl rfl (aC rfl (OL.nil (AW.ret (aO.r ⟨_,.tmp rfl .nil,.le (bG.bool (SY p l))⟩))))
theorem aH8 {l:List Rat}(nl:l.length<=64)(hz:∀ x,x ∈ l->sz x<=134217728):aj P F.uN [lN,.d (tH l)] (.d (tH l)):=by
 refine aj.intro fn.uN (by rfl) (by rfl) (aA (by rfl)) λE hE=>(AW.sg hE rfl (gW rfl rfl λb2=>(jg rfl (OL.nil (AW.sg hE rfl (jg rfl (OL.nil ?_)))))))
 refine AW.seq (AW.seq (AW.own 5 21 T.ak 8 rfl rfl (AW.rg hE rfl (ai rfl (fJ sl.aT rfl rfl (ai rfl (OL.nil ?_)))))));refine AW.block ?_;refine AW.aU (α:=Nat × Nat × Nat) [(2,_),(4,_),(8,_),(9,_)] [(2,_)] (λ(i,bq,cq)=>[(5,.bH 21 bq i cq),(10,.d (dI i))]) (λ(i,bq,cq)=>[(21,.row bq cq T.ak 8 ((l.take i).map dW))]) (λ(i,bq,cq)=>i<=l.length) (λ(i,bq,cq)=>l.length-i) (0,0,0) (.cons (iJ rfl) (.cons (AO rfl) (.cons (bY rfl) (.cons (bY rfl) .nil)))) (.cons (kC rfl) .nil) ⟨Nat.zero_le _,.gy,.cons rfl .nil⟩ ?_
 rintro⟨i,bq,cq⟩ h1
 have h1:i<=l.length:=h1;refine AW.sg hE rfl (aX rfl rfl rfl (OL.nil (AW.seq (AW.cond rfl (λh11=>?_) (λh11=>?_)))))
 .try simp only[eG] at h11
  refine AW.skip (AW.seq (AW.block (AW.seq ?_)));have hx:=hz (l.getD i 0) (getD_mem (by omega) 0)
  refine AW.rg hE rfl (fM sl.aT 0 rfl rfl (by omega) rfl rfl (jS ag.ak rfl (vs:=[_,_,_,_,_,_,_,_]) rfl (aA rfl) (al z.ak rfl λb7=>(fG sz.ak rfl rfl rfl rfl rfl (aA rfl) (cells2:=[_,_,_,_,_,_,_,_]) rfl (OL.nil (AW.dg 2 [0,1,2,3,4,5,6,7,8] au hE rfl (by kernel_rfl) (OI.aS (os:=[_,_,_,_,_,_,_,_,_]) rfl ?_)))))))
  refine gU rfl (aN ag.Ring rfl rfl (vs:=[_,_]) rfl (aA rfl) (aN ag.ak rfl rfl (vs:=[_,_,_,_,_,_,_,_]) rfl (aA rfl) (aN ag.Ring rfl rfl (vs:=[_,_]) rfl (aA rfl) (bF rfl vL (Px) (bF rfl vL (Py (p:=(l.getD i 0)) (q:=0) (by omega) z0K) ?_)))))
  rw[Rat.add_zero];refine xe (y:=dW (l.getD i 0)) sl.aT MR rfl (by decide) ?_
  refine zB sl.aT rfl rfl rfl (by rw[dD,List.length_take];omega) (VC.d _) (λy hy=>by rw[kJ hy];rfl) (by simp;omega) (by simp;omega) (.inr rfl) (ys:=(l.take (i+1)).map dW) (by rw[take_snoc 0 (show i<l.length by omega),List.map_append];rfl) (n2:=i+1) rfl λb2 c2=>?_
  refine oC rfl (OL.nil (AW.rg hE rfl (aH rfl rfl (by omega) (ai rfl (OL.nil ?_)))))
  exact AW.again (x:=(i,bq,cq)) (i+1,b2,c2) (by (simp only[];omega)) ⟨by omega,Knows.app .GL .gy,dw.app (.cons rfl .nil) (.cons rfl .nil)⟩
 .try simp only[eG] at h11
  refine AW.exit (AW.seq ?_);obtain rfl:i=l.length:=by omega
  refine AW.freeze 21 rfl (AW.to [(5,.d (tH l))] [] (.cons (eH (by rw[dD,List.length_take,Nat.min_self]) (by rw[List.take_length])) .nil) .nil ?_)
  exact AW.rg hE rfl (ai rfl (aC rfl (OL.nil (AW.ret (aO.r ⟨_,.tmp rfl .nil,.le vR⟩)))))
theorem aY0  : aj P F.uM [lN] (lN):=by
 refine aj.intro fn.uM (by rfl) (by rfl) (aA (by rfl)) λE hE=>(AW.sg hE rfl (gW rfl rfl λb1=>(al z.Ring rfl λb2=>(OL.nil (AW.seq (AW.dg 1 [0,1,2,3,4,5,6] au hE rfl (by kernel_rfl) (OI.aS (os:=[_,_,_,_,_,_,_]) rfl ?_)))))))
 refine aV fd.nG rfl rfl (aG ce.int rfl rfl rfl (aV fd.Ls rfl rfl (aG ce.ints rfl rfl rfl (bF rfl vL (Wn (l:=[]) (by decide)) (bd z.Ring pl.Ring (cs:=[_,_]) rfl (fG sz.Ring rfl rfl rfl rfl rfl (aA rfl) (cells2:=[_,_]) rfl (OL.nil ?_)))))))
 exact AW.ret (aO.r ⟨_,.dL rfl rfl ag.Ring (aA rfl) .nil,.ag (.cons (.le vR) (.cons (.le vR) .nil))⟩)
theorem aN7 {a:Au}(h:a.Ok)(za:a.Sz 134217728 20)(s1:a.sym<=32)(s2:a.st<=64):aj P F.sZ [zG a] (.d (dB true)):=by
 have e0:=h.GY;have e1:=h.ini;have e2:=h.fin;have e3:=za.num;refine aj.intro fn.sZ (by rfl) (by rfl) (aA (by rfl)) λE hE=>(AW.sg hE rfl (gW rfl rfl λb1=>(aC rfl (OL.nil (AW.seq (AW.sg hE rfl (aV fd.jc rfl rfl ?_)))))))
 refine aN ag.Ring rfl rfl (vs:=[_,_]) rfl (aA rfl) (bF rfl .di (MQ) (nt rfl (ai rfl (OL.yes rfl (aV fd.rO rfl rfl (OL.yes rfl (aG ce.int rfl rfl rfl ?_)))))));refine OL.yes rfl (aX rfl rfl (c:=false) (by exact decide_eq_false (by omega)) (jZ rfl rfl (ai rfl (OL.yes rfl (aV fd.rO rfl rfl (OL.yes rfl (aG ce.int rfl rfl rfl ?_)))))))
 refine OL.yes rfl (gV rfl rfl (c:=false) (by exact decide_eq_false (by omega)) (jZ rfl rfl (ai rfl (OL.yes rfl (aV fd.jW rfl rfl (OL.yes rfl (aG ce.int rfl rfl rfl ?_)))))))
 refine OL.yes rfl (aX rfl rfl (c:=false) (by exact decide_eq_false (by omega)) (jZ rfl rfl (ai rfl (OL.yes rfl (aV fd.jW rfl rfl (OL.yes rfl (aG ce.int rfl rfl rfl ?_)))))))
 refine OL.yes rfl (gV rfl rfl (c:=false) (by exact decide_eq_false (by omega)) (jZ rfl rfl (ai rfl (OL.yes rfl (aV fd.uZ rfl rfl (OL.yes rfl (aG ce.aT rfl rfl rfl ?_)))))))
 refine OL.yes rfl (fJ sl.aT rfl rfl (OL.yes rfl (aV fd.jW rfl rfl (OL.yes rfl (aG ce.int rfl rfl rfl (OL.yes rfl (fC rfl rfl (c:=false) (by exact nZ (by omega)) ?_)))))))
 refine jZ rfl rfl (ai rfl (OL.yes rfl (aV fd.xJ rfl rfl (OL.yes rfl (aG ce.aT rfl rfl rfl (OL.yes rfl (fJ sl.aT rfl rfl ?_)))))));refine OL.yes rfl (aV fd.jW rfl rfl (OL.yes rfl (aG ce.int rfl rfl rfl (OL.yes rfl (fC rfl rfl (c:=false) (by exact nZ (by omega)) (jZ rfl rfl (ai rfl ?_)))))))
 refine OL.yes rfl (aV fd.iI rfl rfl (OL.yes rfl (aG ce.dm rfl rfl rfl (OL.yes rfl (fJ sl.dm rfl rfl (OL.yes rfl (gV rfl rfl (c:=false) (by exact decide_eq_false (by omega)) ?_)))))))
 refine jZ rfl rfl (OL.nil (oz rfl ?_));refine AW.skip (AW.seq (AW.seq (AW.EJ 1 [dI 1,.sl [],dI a.sym,dI a.st,tH a.ini,tH a.fin,lK a.aP] rfl (VCs.WZ [dI 1,.sl [],dI a.sym,dI a.st,tH a.ini,tH a.fin,lK a.aP]) (AW.to [(1,rAu a),(2,.d (dB false))] [] (.cons (aB (show V.VT 1 b1 [dI 1,.sl [],dI a.sym,dI a.st,tH a.ini,tH a.fin,lK a.aP] (.ptr 1 b1 0)=rAu a from G5)) .di) .nil (AW.rg hE rfl (YK fd.iI rfl rfl (iE ce.dm rfl ?_)))))))
 refine mkF (vs:=[_]) rfl (bF rfl vL (Nc (l:=a.aP) (f:=F.mO) (caps:=[rAu a]) (p:=λ_=>false) (λx hx=>aA3 (h.arc x hx) (Nat.le_trans (za.arc x hx) (by decide))) (by omega)) ?_)
 rw[any_false λx _=>rfl];refine OL.nil (oz rfl ?_);refine AW.skip (AW.sg hE rfl (YK fd.jc rfl rfl (jS ag.Ring rfl (vs:=[_,_]) rfl (aA rfl) (YK fd.uZ rfl rfl (iE ce.aT rfl (bF rfl vL (Uj (l:=a.ini) (λx hx=>Nat.le_trans (za.ini x hx) (by decide)) (by omega)) (ai rfl ?_)))))))
 refine OL.yes rfl (YK fd.jc rfl rfl (OL.yes rfl (jS ag.Ring rfl (vs:=[_,_]) rfl (aA rfl) (OL.yes rfl (YK fd.xJ rfl rfl (OL.yes rfl (iE ce.aT rfl ?_)))))));exact OL.yes rfl (bF rfl vL (Uj (l:=a.fin) (λx hx=>Nat.le_trans (za.fin x hx) (by decide)) (by omega)) (lJ rfl rfl (aC rfl (OL.nil (AW.ret (aO.r ⟨_,.tmp rfl .nil,.le vR⟩))))))
theorem X3 {a:Au}(h:a.Ok)(za:a.Sz 134217728 20)(s1:a.sym<=32)(s2:a.st<=64):aj P F.qU [zG a] (.jE [zG (jX a),.d (dI 0)]):=by
 have e0:=h.GY;have e1:=h.ini;have e2:=h.fin;have e3:=za.num;refine aj.intro fn.qU (by rfl) (by rfl) (aA (by rfl)) λE hE=>(AW.sg hE rfl (gW rfl rfl λb1=>(al z.Auto rfl λb2=>(aC rfl (OL.nil (AW.seq (AW.sg hE rfl ?_)))))))
 refine aN ag.Auto rfl rfl (vs:=[_,_,_,_,_,_,_]) rfl (aA rfl) (bF rfl .di (aN7 h za s1 s2) (nt rfl (OL.nil (oz rfl ?_))));refine AW.skip (AW.seq (AW.dg 1 [0,1,2,3,4,5,6,7,8,9,10,11,12,13,14,15,16,17,18,19,20,21,22,23,24] au hE rfl (by kernel_rfl) (OI.aS (os:=[_,_,_,_,_,_,_,_,_,_,_,_,_,_,_,_,_,_,_,_,_,_,_,_,_]) rfl ?_)))
 refine aV fd.jc rfl rfl (aN ag.Ring rfl rfl (vs:=[_,_]) rfl (aA rfl) (bF rfl .di (aY0) (aV fd.rO rfl rfl (aG ce.int rfl rfl rfl (aV fd.jW rfl rfl (aG ce.int rfl rfl rfl (aV fd.jc rfl rfl ?_)))))));refine aN ag.Ring rfl rfl (vs:=[_,_]) rfl (aA rfl) (aV fd.uZ rfl rfl (aG ce.aT rfl rfl rfl (bF rfl vL (aH8 (l:=a.ini) (by omega) za.ini) (aV fd.jc rfl rfl (aN ag.Ring rfl rfl (vs:=[_,_]) rfl (aA rfl) (aV fd.xJ rfl rfl (aG ce.aT rfl rfl rfl ?_)))))))
 refine bF rfl vL (aH8 (l:=a.fin) (by omega) za.fin) (aV fd.jc rfl rfl (aN ag.Ring rfl rfl (vs:=[_,_]) rfl (aA rfl) (aV fd.iI rfl rfl (aG ce.dm rfl rfl rfl (bF rfl vL (aX8 (l:=a.aP) e3 za.arc) (Vk (cs:=[_,_,_,_,_,_,_]) z.Auto pl.Auto (rG (by exact evA rfl) (rG (by exact zC rfl) (rG (by exact zC rfl) (rG (by exact zC rfl) (rG (by exact zC rfl) (rG (by exact zC rfl) (Vj))))))) (by rfl) (fG sz.Auto rfl rfl rfl rfl rfl (aA rfl) (cells2:=[_,_,_,_,_,_,_]) rfl ?_)))))))
 refine aC rfl (OL.nil ?_);exact AW.ret (aO.r ⟨_,.dL rfl rfl ag.Auto (aA rfl) (.tmp rfl .nil),_,.cons (.ag (.cons (.le vR) (.cons (.le vR) (.cons (.le vR) (.cons (.le vR) (.cons (.le vR) (.cons (.le vR) (.cons (.le vR) .nil)))))))) (.cons (.le vR) .nil),rfl⟩)
theorem aA9 {x:bD}(hx:1<=x.l):aj P F.sD [Hu x] (.d (dB false)):=by
 refine aj.intro fn.sD (by rfl) (by rfl) (aA (by rfl)) λE hE=>(AW.sg hE rfl (gW rfl rfl λb1=>(aC rfl (OL.nil (AW.sg hE rfl (aV fd.yZ rfl rfl (aG ce.int rfl rfl rfl ?_)))))))
 exact dG rfl rfl (c:=false) (by exact decide_eq_false (by omega)) (aC rfl (OL.nil (AW.ret (aO.r ⟨_,.tmp rfl .nil,.le vR⟩))))

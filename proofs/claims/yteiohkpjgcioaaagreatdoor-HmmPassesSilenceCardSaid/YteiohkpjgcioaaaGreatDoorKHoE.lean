/-
  Walks: slices.Compact and slices.BinarySearch of whole numbers, exactly (printed by mk2.py).
-/
import Derived.Test.YteiohkpjgcioaaaGreatDoorKHxD
set_option linter.unusedVariables false
set_option linter.unusedSimpArgs false
namespace Go.Proofs.YteiohkpjgcioaaaGreatDoor
open Go Go.AL
theorem Ye {id b n c:Nat}{es:List D}(hn:n<=es.length):V.YA id b c es (.bJ id b n c)=.d (.sl (es.take n)):=by
 simp[V.YA,hn]
theorem aw3 {i:Nat}:upI (i+1)=upI i++[(i:Int)]:=by unfold upI;rw[List.range_succ,List.map_append];rfl
def FT (h:HM)(i:Nat):List Nat:=(List.range i).filter λi=>!(h.silent.getD i false)
theorem TM {h:HM}{i:Nat}(hs:h.silent.getD i false=false):FT h (i+1)=FT h i++[i]:=by
 unfold FT;rw[List.range_succ,List.filter_append,List.filter_cons,if_pos (by rw[hs];rfl)];rfl
theorem TN {h:HM}{i:Nat}(hs:h.silent.getD i false=true):FT h (i+1)=FT h i:=by
 unfold FT;rw[List.range_succ,List.filter_append,List.filter_cons,if_neg (by rw[hs];decide)]
 exact List.append_nil _
theorem aw4 {h:HM}{i:Nat}:(FT h i).length<=i:=by
 unfold FT;refine Nat.le_trans (List.length_filter_le ..) ?_;rw[List.length_range];exact Nat.le_refl _
def Iy (h:HM)(k:Nat):Nat:=(h.ties.getD k 0).toNat
theorem Q8 {h:HM}{k:Nat}(hk:0<=h.ties.getD k 0):dI (h.ties.getD k 0)=dN (Iy h k):=by
 unfold Iy;show dI _=dI _
 rw[Int.toNat_of_nonneg hk]
theorem pk_len {h:HM}{l:List Rat}:(JV h l).length=(bD h).length:=by unfold JV;rw[dF]
theorem JQ {h:HM}{l:List Rat}(hl:l.length=h.st)(hn:h.st<=12):ai P F.vM [.d (o9 l),.ref [dNs (bD h)]] (.d (o9 (JV h l))):=by
 have hll:=MN (h:=h);have hpl:=pk_len (h:=h) (l:=l);refine ai.intro fn.vM (by rfl) (by rfl) (au (by rfl)) λE hE=>(AW.sg hE rfl (oq rfl (OL.nil (AW.sg hE rfl (bP ce.ints rfl (eH (f:=λk:Nat=>dI (k:Int)) sl.ints rfl rfl (Xd dQ 0 sl.aQ z.Rat NG (n:=(bD h).length) (cp:=(bD h).length) rfl rfl (Nat.le_refl _) (by omega) (by omega) rfl λb9=>?_)))))))
 refine uj rfl (OL.nil (AW.seq (AW.sg hE rfl (bP ce.ints rfl (eH (f:=λk:Nat=>dI (k:Int)) sl.ints rfl rfl (ah rfl (OL.nil ?_)))))));refine AW.block ?_;refine AW.aK (α:=Nat) [(0,_),(3,_),(4,_),(10,_),(11,_)] [] (λi=>[(12,.d (dI i))]) (λi=>[(9,.row b9 (bD h).length T.Rat 3 ((tX 0 (λj=>(JV h l).getD j 0) (bD h).length i).map dQ))]) (λi=>i<=(bD h).length) (λi=>(bD h).length-i) 0 (.cons (bM rfl) (.cons (zi rfl) (.cons (uH rfl) (.cons (bM rfl) (.cons (bM rfl) .nil))))) .nil ⟨Nat.zero_le _,.bC,.cons (by rw[D8];rfl) .nil⟩ ?_
 intro i h1;have h1:i<=(bD h).length:=h1;have hfl:=uS (d:=(0:Rat)) (g:=λj=>(JV h l).getD j 0) (n:=(bD h).length) (i:=i);refine AW.sg hE rfl (aN rfl rfl rfl (OL.nil (AW.seq (AW.cond rfl (λh13=>?_) (λh13=>?_)))))
 .try simp only[bY] at h13
  refine AW.skip (AW.seq (AW.block (AW.seq ?_)));have hi:i<(bD h).length:=by omega
  obtain⟨hk,hks⟩:=xW hi;have hpg:(JV h l).getD i 0=l.getD ((bD h).getD i 0) 0:=Ef (d:=0) hi;refine AW.rg hE rfl (ah rfl (bg (f:=λk:Nat=>dI (k:Int)) sl.ints 0 rfl rfl hi rfl rfl (bP ce.int rfl (ay rfl (ay rfl (OL.nil (AW.rg hE rfl ?_)))))));refine fQ rfl (ah rfl (ah rfl (ah rfl (bg sl.aQ 0 rfl rfl (by omega) rfl rfl (iU ag.Rat rfl (vs:=[_,_,_]) rfl (au rfl) (dV sl.aQ rfl rfl (by omega) (AA sz.Rat rfl (d:=dQ (l.getD ((bD h).getD i 0) 0)) Dp rfl rfl (by rw[dF];omega) (es2:=(tX 0 (λj=>(JV h l).getD j 0) (bD h).length (i+1)).map dQ) (by rw[<- Gm hi,hpg,List.map_set]) ?_)))))))
  exact OL.nil (AW.rg hE rfl (aB rfl rfl (by omega) (ah rfl (OL.nil (AW.again (x:=i) (i+1) (by omega) ⟨by omega,Knows.app .y9 .bC,.cons rfl .nil⟩)))))
 .try simp only[bY] at h13
  refine AW.exit (AW.seq ?_);obtain rfl:i=(bD h).length:=by omega
  have hfr:(List.range (bD h).length).map (λj=>(JV h l).getD j 0)=(JV h l):=by rw[<- hpl];exact uz (JV h l) 0
  refine AW.freeze 9 rfl (AW.to [(4,.d (o9 (JV h l)))] [] (.cons (dP (by rw[dF,uS]) (by rw[Gn,hfr])) .nil) .nil ?_)
  exact AW.rg hE rfl (ah rfl (ay rfl (OL.nil (AW.ret (aH.r ⟨_,.tmp rfl .nil,.le vR⟩)))))
end Go.Proofs.YteiohkpjgcioaaaGreatDoor
namespace Go.AL
open Go Go.BigFrame
def TP (l:List Nat):Prop:=∀ p q,p<=q->q<l.length->l.getD p 0<=l.getD q 0
def bb4 (l:List Nat):Prop:=∀ p q,p<q->q<l.length->l.getD p 0<l.getD q 0
def Iz (l:List Nat):Nat->List Nat
 | 0=>[]
 | m+1=>Iz l m++if m=0 \/ l.getD m 0≠l.getD (m-1) 0 then [l.getD m 0] else []
theorem ZB (l:List Nat):∀ m,(Iz l m).length<=m
 | 0=>Nat.le_refl _
 | m+1=>by
  have:=ZB l m;rw[Iz,jT]
  split
  .rw[nN];omega
  .rw[List.length_nil];omega
theorem aw5 {l:List Nat}{m:Nat}(h:l.getD m 0≠l.getD (m-1) 0):Iz l (m+1)=Iz l m++[l.getD m 0]:=by rw[Iz,if_pos (.inr h)]
theorem MQ {l:List Nat}{m:Nat}(h0:1<=m)(h:l.getD m 0=l.getD (m-1) 0):Iz l (m+1)=Iz l m:=by rw[Iz,if_neg (λc=>c.elim (by omega) (λc=>c h)),List.append_nil]
theorem FU {l:List Nat}:∀ {m:Nat},m<=l.length->(∀ p,1<=p->p<m->l.getD p 0≠l.getD (p-1) 0)->Iz l m=l.take m
 | 0,_,_=>by rw[List.take_zero];rfl
 | m+1,hm,h=>by
  rw[Iz,FU (by omega) λp h1 h2=>h p h1 (by omega),cu (by omega) 0]
  congr 1;by_cases c:m=0
  .rw[if_pos (.inl c)]
  .rw[if_pos (.inr (h m (by omega) (by omega)))]
theorem TQ {l:List Nat}:∀ {m:Nat},∀ p,p<m->l.getD p 0 ∈ Iz l m
 | 0,p,hp=>by omega
 | m + 1, p, hp => by
  rw[Iz,List.mem_append];rcases Nat.lt_or_ge p m with h|h
  .exact .inl (TQ p h)
  .obtain rfl:p=m:=by omega
   by_cases c:p=0 \/ l.getD p 0≠l.getD (p-1) 0
   .rw[if_pos c];exact .inr (List.mem_singleton.2 rfl)
   .have c0:p≠0:=λe=>c (.inl e);have c1:l.getD p 0=l.getD (p-1) 0:=Decidable.of_not_not λe=>c (.inr e);rw[c1];exact .inl (TQ (p-1) (by omega))
theorem aw6 {l:List Nat}(ha:TP l):∀ {m:Nat},m<=l.length->∀ x,x ∈ Iz l m->1<=m/\x<=l.getD (m-1) 0
 | 0,_,x,hx=>by cases hx
 | m + 1, hm, x, hx => by
  rw[Iz,List.mem_append] at hx;refine⟨by omega,?_⟩
  rw[Nat.add_sub_cancel];rcases hx with hx|hx
  .obtain⟨h1,h2⟩:=aw6 ha (m:=m) (by omega) x hx
   exact Nat.le_trans h2 (ha _ _ (by omega) (by omega))
  .split at hx
   .rw[qm hx];exact Nat.le_refl _
   .cases hx
theorem ZC {l:List Nat}(ha:TP l):∀ {m:Nat},m<=l.length->bb4 (Iz l m)
 | 0,_=>λp q h1 h2=>by simp[Iz] at h2
 | m + 1, hm => by
  have ih:=ZC ha (m:=m) (by omega)
  intro p q h1 h2;rw[Iz] at h2 ⊢;by_cases c:m=0 \/ l.getD m 0≠l.getD (m-1) 0
  .rw[if_pos c] at h2 ⊢;rw[jT,nN] at h2;have left:∀ r,r<(Iz l m).length->(Iz l m++[l.getD m 0]).getD r 0=(Iz l m).getD r 0:=λr hr=>mM hr;rw[left p (by omega)]
   rcases Nat.lt_or_ge q (Iz l m).length with hq|hq
   .rw[left q hq];exact ih p q h1 hq
   .rw[mO (by omega)]
    obtain⟨k1,k2⟩:=aw6 ha (m:=m) (by omega) _ (getD_mem (show p<(Iz l m).length by omega) 0)
    have k3:=ha (m-1) m (by omega) (by omega)
    have k4:l.getD m 0≠l.getD (m-1) 0:=c.resolve_left (by omega)
    omega
  .rw[if_neg c,List.append_nil] at h2 ⊢;exact ih p q h1 h2
end Go.AL
namespace Go.Proofs.YteiohkpjgcioaaaGreatDoor
open Go Go.AL
theorem ag3 {u:List Nat}{i x:Nat}(h:i<u.length):(u.set i x).take (i+1)=u.take i++[x]:=by
 rw[List.take_succ_eq_append_getElem (by rw[List.length_set];exact h),List.take_set_of_le (Nat.le_refl _),List.getElem_set_self]
theorem aw7 {l:List Nat}{i k x:Nat}(hi:i<l.length):(l.set i x).getD k 0=if k=i then x else l.getD k 0:=by
 rw[iZ,List.getElem?_set];by_cases e:i=k
 .subst e;rw[if_pos rfl,if_pos hi,if_pos rfl];rfl
 .rw[if_neg e,if_neg (λx=>e x.symm),iZ]
theorem bb5 {l:List Nat}{x:Nat}(h:x ∈ l):∃ p,p<l.length/\l.getD p 0=x:=by
 obtain⟨i,hi,e⟩:=List.mem_iff_getElem.1 h;exact⟨i,hi,by rw[iZ,sU hi];exact e⟩
set_option maxHeartbeats 1600000 in
theorem aw8 {l:List Nat}{n b c9:Nat}(hl:l.length=n)(hn:n<=1048576):jv P F.kN [.bJ 1000 b n c9] (mem1 1000 (.row b c9 T.int 1 ((l).map dN))) (λy:List Nat=>.d (.sl (y.map dN))) (λ_=>jm) (λy=>y=Iz l n):=by
 refine jv.intro fn.kN (by rfl) (by rfl) (au (by rfl)) λE hE=>(AW.sg hE rfl (oq rfl (OL.nil (AW.seq (AW.sg hE rfl (fQ rfl (WI sl.ints rfl rfl ?_)))))))
 refine aN rfl rfl rfl (OL.nil (AW.cond rfl (λh8=>?_) (λh8=>?_)))
 .try simp only[bY] at h8
  refine AW.sg hE rfl (fQ rfl (uj rfl (OL.nil (AW.freeze 1000 rfl (AW.ret ⟨l,((by rw[FU (by omega) (λp h1 h2=>by omega),List.take_of_length_le (by omega)])),⟨_,.tmp rfl .nil,.le (dP (by rw[dF];omega) rfl)⟩,λ_ _ h=>by cases h⟩)))))
 .try simp only[bY] at h8
  refine AW.skip (AW.seq (AW.sg hE rfl (ay rfl (OL.nil (AW.block ?_)))));refine AW.aK (α:=Nat) [(0,_)] [] (λk=>[(3,.d (dI k))]) (λk=>[(1000,.row b c9 T.int 1 ((l).map dN))]) (λk=>1<=k/\k<=n/\∀ p,1<=p->p<k->l.getD p 0≠l.getD (p-1) 0) (λk=>n-k) 1 (.cons (uH rfl) .nil) .nil ⟨⟨Nat.le_refl _,by omega,λp h1 h2=>by omega⟩,.bC,.cons rfl .nil⟩ ?_
  rintro k ⟨h1,h2,hq⟩
  have h1:1<=k:=h1;have h2:k<=n:=h2;have hq:∀ p,1<=p->p<k->l.getD p 0≠l.getD (p-1) 0:=hq;refine AW.seq (AW.sg hE rfl (ah rfl (fQ rfl (WI sl.ints rfl rfl (aN rfl rfl rfl (OL.nil (AW.cond rfl (λh13=>?_) (λh13=>?_))))))))
  .try simp only[bY] at h13
   refine AW.skip (AW.seq (AW.block (AW.seq (AW.dg 1 [0,1,2,3,4,5,6,7,8,9] aj hE rfl (by kernel_rfl) (OI.aP (os:=[_,_,_,_,_,_,_,_,_,_]) rfl ?_)))))
   refine fQ rfl (ah rfl (dV sl.ints rfl rfl (by omega) (ES ce.int 0 (by decide) rfl rfl (by omega) rfl (fQ rfl (ah rfl (bo rfl rfl (dK (c:=((k-1:Nat):Int)) (by omega) (wrap_i64 (by omega))) (dV sl.ints rfl rfl (by omega) ?_)))))))
   refine ES ce.int 0 (by decide) rfl rfl (by omega) rfl (dm rfl rfl rfl (OL.nil (AW.cond rfl (λhe=>?_) (λhe=>?_))))
   .have he:l.getD k 0=l.getD (k-1) 0:=by have:=jC he;omega
    refine AW.sg hE rfl (fQ rfl (ah rfl (slB (l:=k) (n2:=n-k) sl.ints rfl rfl (by omega) rfl (asB rfl (OL.nil (AW.seq (AW.sg hE rfl ?_)))))))
    refine ay rfl (OL.nil (AW.block ?_));refine AW.aK (α:=Nat × Nat × List Nat) [(0,_),(4,_)] [] (λ(i,j,u)=>[(3,.d (dI i)),(5,.d (dI j))]) (λ(i,j,u)=>[(1000,.row b c9 T.int 1 ((u).map dN))]) (λ(i,j,u)=>1<=i/\i<k+j/\1<=j/\j<=n-k/\u.length=n/\u.take i=Iz l (k+j)/\i=(Iz l (k+j)).length/\∀ p,i<=p->u.getD p 0=l.getD p 0) (λ(i,j,u)=>n-k-j) (k,1,l) (.cons (uH rfl) (.cons (knB rfl) .nil)) .nil ⟨⟨h1,by omega,Nat.le_refl _,by omega,hl,by rw[MQ h1 he];exact (FU (by omega) hq).symm,by rw[MQ h1 he,FU (by omega) hq,List.length_take];omega,λp _=>rfl⟩,.dR,.cons rfl .nil⟩ ?_
    rintro⟨i,j,u⟩ ⟨h3,h4,h5,h6,h7,h8,h9,h10⟩
    have h4:i<k+j:=h4;have h6:j<=n-k:=h6;have h7:u.length=n:=h7;have h8:u.take i=Iz l (k+j):=h8;have h9:i=(Iz l (k+j)).length:=h9;have h10:∀ p,i<=p->u.getD p 0=l.getD p 0:=h10;refine AW.seq (AW.sg hE rfl (ah rfl (mvB rfl (lnB sl.ints rfl rfl (aN rfl rfl rfl (OL.nil (AW.cond rfl (λh32=>?_) (λh32=>?_))))))))
    .try simp only[bY] at h32
     refine AW.skip (AW.seq (AW.block (AW.seq (AW.dg 1 [0,1,2,3,4,5,6,7,8,9] aj hE rfl (by kernel_rfl) (OI.aP (os:=[_,_,_,_,_,_,_,_,_,_]) rfl ?_)))))
     refine mvB rfl (ah rfl (aP5 (n:=j) (i:=k+j) sl.ints rfl rfl (by omega) rfl (ES ce.int 0 (by decide) rfl rfl (by omega) rfl (mvB rfl (ah rfl (bo rfl rfl (dK (c:=((j-1:Nat):Int)) (by omega) (wrap_i64 (by omega))) (aP5 (n:=j-1) (i:=k+(j-1)) sl.ints rfl rfl (by omega) rfl ?_)))))))
     refine ES ce.int 0 (by decide) rfl rfl (by omega) rfl (bU rfl rfl rfl (OL.nil (AW.cond rfl (λhn=>?_) (λhn=>?_))))
     .have hn0:=L6 hn;have ea:=h10 (k+j) (by omega)
      have eb:=h10 (k+(j-1)) (by omega)
      have ec:k+(j-1)=k+j-1:=by omega
      have hn:l.getD (k+j) 0≠l.getD (k+j-1) 0:=λe=>hn0 (by rw[ea,eb,ec,e])
      have hs1:(u.set i (u.getD (k+j) 0)).take (i+1)=Iz l (k+(j+1)):=by rw[ag3 (by omega),h8,ea,show k+(j+1)=k+j+1 by omega,aw5 hn]
      have hs2:i+1=(Iz l (k+(j+1))).length:=by rw[show k+(j+1)=k+j+1 by omega,aw5 hn,jT,<- h9];rfl
      have hs3:∀ p,i+1<=p->(u.set i (u.getD (k+j) 0)).getD p 0=l.getD p 0:=λp hp=>by rw[aw7 (by omega),if_neg (by omega)];exact h10 p (by omega)
      refine AW.sg hE rfl (fQ rfl (ah rfl (mvB rfl (ah rfl (aP5 (n:=j) (i:=k+j) sl.ints rfl rfl (by omega) rfl (ES ce.int 0 (by decide) rfl rfl (by omega) rfl (dV sl.ints rfl rfl (by omega) ?_)))))))
      refine AA sz.int rfl (VC.d _).vd rfl rfl (by rw[dF];omega) (es2:=(u.set i (u.getD (k+j) 0)).map dN) (by rw[List.map_set]) (OL.nil (AW.rg hE rfl (ah rfl (aB rfl rfl (by omega) (ay rfl (OL.nil (AW.rg hE rfl ?_)))))))
      refine ah rfl (aB rfl rfl (by omega) (ay rfl (OL.nil ?_)))
      exact AW.again (x:=(i,j,u)) (i+1,j+1,u.set i (u.getD (k+j) 0)) (by show n-k-(j+1)<n-k-j;omega) ⟨⟨by omega,by omega,by omega,by omega,by rw[List.length_set];exact h7,hs1,hs2,hs3⟩,Knows.app .dR .dR,.cons rfl .nil⟩
     .have hn0:=J3 hn;have ea:=h10 (k+j) (by omega)
      have eb:=h10 (k+(j-1)) (by omega)
      have ec:k+(j-1)=k+j-1:=by omega
      have hn:l.getD (k+j) 0=l.getD (k+j-1) 0:=by rw[ea,eb,ec] at hn0;omega
      refine AW.skip (AW.rg hE rfl (ah rfl (aB rfl rfl (by omega) (ay rfl (OL.nil ?_)))))
      exact AW.again (x:=(i,j,u)) (i,j+1,u) (by show n-k-(j+1)<n-k-j;omega) ⟨⟨h3,by omega,by omega,by omega,h7,by rw[show k+(j+1)=k+j+1 by omega,MQ (by omega) hn];exact h8,by rw[show k+(j+1)=k+j+1 by omega,MQ (by omega) hn];exact h9,h10⟩,Knows.app .dR .dR,.cons rfl .nil⟩
    .try simp only[bY] at h32
     refine AW.exit (AW.seq (AW.RZ (by rw[hE];rfl) (SL.dG (fQ rfl (OL.nil ?_)))))
     refine SL.dG (ah rfl (OL.nil ?_));refine SL.dG (slB (l:=i) (n2:=n-i) sl.ints rfl rfl (by omega) rfl (OL.nil ?_))
     refine SL.G5 rfl (SO.aq5 (z:=dN 0) trivial sl.ints z.int (VCs.cons (VC.d _) VCs.nil) rfl rfl (by rw[dF];omega) ?_)
     refine AW.sg hE rfl (fQ rfl (ah rfl (slO (h:=i) sl.ints rfl rfl (by omega) (uj rfl (OL.nil ?_)))))
     refine AW.freeze 1000 rfl (AW.ret ⟨u.take i,(by rw[h8,show k+j=n by omega]),⟨_,.tmp rfl .nil,.le (aI ((Ye (by rw[jT,List.length_take,dF];omega)).trans (by rw[List.take_append_of_le_length (by rw[List.length_take,dF];omega),List.take_take,Nat.min_self,<- List.map_take])))⟩,λ_ _ h=>by cases h⟩)
   .have he:l.getD k 0≠l.getD (k-1) 0:=λe=>kK he (by rw[e])
    exact AW.skip (AW.rg hE rfl (ah rfl (aB rfl rfl (by omega) (ay rfl (OL.nil (AW.again (x:=k) (k+1) (by omega) ⟨⟨by omega,by omega,λp q1 q2=>by rcases Nat.lt_or_ge p k with c|c;exact hq p q1 c;obtain rfl:p=k:=(by omega);exact he⟩,Knows.app .bC .bC,.cons rfl .nil⟩))))))
  .try simp only[bY] at h13
   refine AW.exit (AW.sg hE rfl (fQ rfl (uj rfl (OL.nil (AW.freeze 1000 rfl (AW.ret ⟨l,(by obtain rfl:k=n:=(by omega);exact (by rw[FU (by omega) hq,List.take_of_length_le (by omega)])),⟨_,.tmp rfl .nil,.le (dP (by rw[dF];omega) rfl)⟩,λ_ _ h=>by cases h⟩))))))
theorem aI9 {l:List Nat}{x:Nat}(hn:l.length<=1048576):jv P F.jb [.d (.sl (l.map dN)),.d (dN x)] jm (λy:Nat × Bool=>.jM [.d (dN y.1),.d (dB y.2)]) (λ_=>jm) (λy=>y.1<=l.length/\(TP l->x ∈ l->y.1<l.length/\l.getD y.1 0=x)):=by
 refine jv.intro fn.jb (by rfl) (by rfl) (au (by rfl)) λE hE=>(AW.sg hE rfl (ay rfl (ay rfl (OL.nil (AW.sg hE rfl (ah rfl (eH (f:=dN) sl.ints rfl rfl ?_)))))))
 refine ay rfl (OL.nil (AW.sg hE rfl (ah rfl (ay rfl (ay rfl (OL.nil (AW.seq ?_)))))));refine AW.block ?_;refine AW.aK (α:=Nat × Nat) [(0,_),(1,_),(4,_),(5,_),(6,_)] [] (λ(i,j)=>[(7,.d (dI i)),(8,.d (dI j))]) (λ(i,j)=>[]) (λ(i,j)=>i<=j/\j<=l.length/\(TP l->(∀ p,p<i->l.getD p 0<x)/\∀ p,j<=p->p<l.length->x<=l.getD p 0)) (λ(i,j)=>j-i) (0,l.length) (.cons (bM rfl) (.cons (bM rfl) (.cons (bM rfl) (.cons (bM rfl) (.cons (bM rfl) .nil))))) .nil ⟨⟨Nat.zero_le _,Nat.le_refl _,λ_=>⟨λp hp=>by omega,λp h1 h2=>by omega⟩⟩,.dR,.nil⟩ ?_
 rintro⟨i,j⟩ ⟨h1,h2,h9⟩
 have h1:i<=j:=h1;have h2:j<=l.length:=h2;have h9:TP l->(∀ p,p<i->l.getD p 0<x)/\∀ p,j<=p->p<l.length->x<=l.getD p 0:=h9;refine AW.seq (AW.sg hE rfl (ah rfl (ah rfl (aN rfl rfl rfl (OL.nil (AW.cond rfl (λh15=>?_) (λh15=>?_)))))))
 .try simp only[bY] at h15
  refine AW.skip (AW.block (AW.seq ?_));have hlt:i<j:=by omega
  refine AW.rg hE rfl (ah rfl (ah rfl (bo rfl rfl (dO (c:=((i+j:Nat):Int)) (by omega) (wrap_i64 (by omega))) (cv it.int it.uint rfl (wrap_u64 (by omega)) (RD rfl rfl ⟨by decide,by decide⟩ (c:=(((i+j) / 2:Nat):Int)) (by show (((i+j:Nat):Int)) / 2=_;omega) (cv it.uint it.int rfl (wrap_i64 (by omega)) (ay rfl ?_)))))))
  refine OL.nil (AW.sg hE rfl (ah rfl (ah rfl (bg (f:=dN) sl.ints 0 rfl rfl (by omega) rfl rfl (bP ce.int rfl (ah rfl (aY rfl vL (aN0 (x:=l.getD ((i+j) / 2) 0) (y:=x)) ?_)))))))
  refine OL.nil (AW.cond rfl (λhc=>?_) (λhc=>?_))
  .have hc0:Hr (l.getD ((i+j) / 2) 0) x=true:=hc;unfold Hr at hc0;have hc:l.getD ((i+j) / 2) 0<x:=by have:=jC hc0;omega
   refine AW.rg hE rfl (ah rfl (aB rfl rfl (by omega) (ay rfl (OL.nil ?_))))
   exact AW.again (x:=(i,j)) ((i+j) / 2+1,j) (by show j-((i+j) / 2+1)<j-i;omega) ⟨⟨by omega,by omega,λha=>⟨λp hp=>Nat.lt_of_le_of_lt (ha p ((i+j) / 2) (by omega) (by omega)) hc,(h9 ha).2⟩⟩,Knows.app .y9 (.cons (aZ.int (by omega)) .bC),.nil⟩
  .have hc0:Hr (l.getD ((i+j) / 2) 0) x=false:=hc;unfold Hr at hc0;have hc:x<=l.getD ((i+j) / 2) 0:=by have:=kK hc0;omega
   refine AW.rg hE rfl (ah rfl (ay rfl (OL.nil ?_)));exact AW.again (x:=(i,j)) (i,(i+j) / 2) (by show (i+j) / 2-i<j-i;omega) ⟨⟨by omega,by omega,λha=>⟨(h9 ha).1,λp hp hl=>Nat.le_trans hc (ha ((i+j) / 2) p hp hl)⟩⟩,Knows.app .y9 (.cons vR (.cons (aZ.int (by omega)) .nil)),.nil⟩
 .try simp only[bY] at h15
  refine AW.exit (AW.seq ?_);have hij:i<=l.length:=by omega
  have hfin:i<=l.length/\(TP l->x ∈ l->i<l.length/\l.getD i 0=x):=⟨hij,λha hx=>by
   obtain⟨p,hp,e⟩:=bb5 hx;obtain⟨q1,q2⟩:=h9 ha;have hpi:i<=p:=by
    rcases Nat.lt_or_ge p i with c|c
    .have:=q1 p c;omega
    .exact c
   have a1:=q2 i (by omega) (by omega)
   have a2:=ha i p hpi hp;exact⟨by omega,by omega⟩⟩
  refine AW.rg hE rfl (ah rfl (ah rfl (ah rfl (aN rfl rfl rfl (OL.split 34 rfl (λh3=>?_) (λh3=>?_))))))
  .have h3:i<l.length:=by have:=jC h3;omega
   refine ah rfl (OL.yes rfl (ah rfl (OL.yes rfl (ah rfl (OL.yes rfl (bg (f:=dN) sl.ints 0 rfl rfl (by omega) rfl rfl (OL.yes rfl ?_)))))))
   refine bP ce.int rfl (OL.yes rfl (ah rfl (OL.yes rfl (dm rfl rfl rfl (OL.split 41 rfl (λh4=>?_) (λh4=>?_))))))
   .skip
    refine OL.yes rfl (ah rfl (OL.nd rfl (OL.nd rfl (OL.nd rfl (OL.nd rfl (OL.nd rfl (OL.nd rfl ?_)))))));refine OL.nd rfl (OL.nd rfl (OL.nd rfl (OL.yes rfl (iV rfl rfl (iV rfl rfl (ay rfl (ay rfl ?_)))))));refine OL.nil ?_;exact AW.ret ⟨(i,true),hfin,⟨_,.tmp rfl (.tmp rfl .nil),_,.cons (.le vR) (.cons (.le vR) .nil),rfl⟩,λ_ _ h=>by cases h⟩
   .skip
    refine OL.yes rfl (ah rfl (OL.yes rfl (ah rfl (OL.yes rfl (ah rfl (OL.yes rfl (bg (f:=dN) sl.ints 0 rfl rfl (by omega) rfl rfl ?_)))))))
    refine OL.yes rfl (bP ce.int rfl (OL.yes rfl (aY rfl vL (Q7) (OL.yes rfl (ah rfl (OL.split 48 rfl (λg48=>?_) (λg48=>?_)))))))
    .try simp only[bY] at g48
     refine OL.yes rfl (ah rfl (OL.yes rfl (aY rfl vL (Q7) (OL.yes rfl (iV rfl rfl (OL.yes rfl (eG rfl rfl ?_)))))));refine iV rfl rfl (ay rfl (ay rfl (OL.nil ?_)));exact AW.ret ⟨(i,false),hfin,⟨_,.tmp rfl (.tmp rfl .nil),_,.cons (.le vR) (.cons (.le vR) .nil),rfl⟩,λ_ _ h=>by cases h⟩
    .try simp only[bY] at g48
     refine OL.nd rfl (OL.nd rfl (OL.yes rfl (eG rfl rfl (OL.yes rfl (eG rfl rfl (iV rfl rfl (ay rfl ?_)))))));refine ay rfl (OL.nil ?_);exact AW.ret ⟨(i,false),hfin,⟨_,.tmp rfl (.tmp rfl .nil),_,.cons (.le vR) (.cons (.le vR) .nil),rfl⟩,λ_ _ h=>by cases h⟩
  .have h3:¬ i<l.length:=by have:=kK h3;omega
   refine ah rfl (OL.nd rfl (OL.nd rfl (OL.nd rfl (OL.nd rfl (OL.nd rfl (OL.nd rfl (OL.nd rfl ?_)))))));refine OL.nd rfl (OL.nd rfl (OL.nd rfl (OL.nd rfl (OL.nd rfl (OL.nd rfl (OL.nd rfl (OL.nd rfl ?_)))))));refine OL.nd rfl (OL.nd rfl (eG rfl rfl (ay rfl (ay rfl (OL.nil ?_)))));exact AW.ret ⟨(i,false),hfin,⟨_,.tmp rfl (.tmp rfl .nil),_,.cons (.le vR) (.cons (.le vR) .nil),rfl⟩,λ_ _ h=>by cases h⟩

/-
  Walks of layer 24 of the specification, part 1: prefixes (printed by mk2.py).
-/
import Derived.Test.YtanlenlmihoiiaaGreatDoorKWkBG
set_option linter.unusedVariables false
set_option linter.unusedSimpArgs false
namespace Go.AL
open Go Go.BigFrame
section
variable {m a b:bV}{B n e i s j:Nat}{vs:List (List Rat)}{y:y7}{w l:List Int}{K:List (List Int)}
theorem Gt:∀ (k:Nat) (vs:List (List Rat)),vs.length=k->(eG vs).length<=vs.length
 | 0,vs,h=>by rw[Hl h];exact Nat.le_refl _
 | k+1,vs,h=>by
  have hne:vs≠[]:=λe=>by rw[e] at h;cases h
  obtain⟨z,x,rfl⟩:∃ z x,vs=z++[x]:=⟨vs.dropLast,vs.getLast hne,(List.dropLast_concat_getLast hne).symm⟩;rw[jd,iY] at h;have ih:=Gt k z (by omega)
  rw[oG,jd,iY];unfold uK
  split
  .rw[jd,iY];omega
  .omega
theorem XK:∀ (k:Nat) (vs:List (List Rat)),vs.length=k->(∀ v,v ∈ vs->v.length=n)->(eG vs).length=vs.length->Qk n (eG vs) vs
 | 0,vs,h,_,_=>by rw[Hl h];exact Qk.nil
 | k + 1, vs, h, hl, he => by
  have hne:vs≠[]:=λe=>by rw[e] at h;cases h
  obtain⟨z,x,rfl⟩:∃ z x,vs=z++[x]:=⟨vs.dropLast,vs.getLast hne,(List.dropLast_concat_getLast hne).symm⟩;rw[jd,iY] at h;have hle:=Gt k z (by omega)
  rw[oG,jd,iY] at he;rw[oG];by_cases hg:bM (eG z) x=true
  .rw[show uK (eG z) x=eG z++[newR (eG z) x] from if_pos hg] at he ⊢
   rw[jd,iY] at he;exact (XK k z (by omega) (λv hv=>hl v (List.mem_append.2 (.inl hv))) (by omega)).grow (hl x (List.mem_append.2 (.inr (List.mem_singleton.2 rfl))))
  .rw[show uK (eG z) x=eG z from if_neg hg] at he
   omega
theorem Dc (ok:m.Ok)(n6:m.n<=6)(h1:1<=B)(hz:∀ w,iV m.k w->w.length<=6->∀ i,sz ((bF m w).getD i 0)<=B):∀ (N:Nat) (Q:List (List Int)) (y:y7),gu m B Q y->y.rs=eG (y.ks.map (bF m))->iP m Q y.rs<=N->∃ y,gu m B [] y/\y.rs=eG (y.ks.map (bF m))
 | N,[],y,h,hr,_=>⟨y,h,hr⟩
 | 0,w::Q,y,h,hr,hN=>by
  have:=xO (m:=m) (w:=w) (Q:=Q) (rs:=y.rs);omega
 | N + 1, w :: Q, y, h, hr, hN => by
  have hw:iV m.k w:=by
   obtain⟨V,j,_⟩:=h.join;exact j.Kz.vF w (.inr pU)
  have h6:=h.b.six n6 w pU;obtain⟨ht,hf⟩:=h.next ok h1 (hz w hw h6)
  have keep:(oJ m w y).2.rs=eG ((oJ m w y).2.ks.map (bF m)):=by
   unfold oJ;by_cases hg:bM y.rs (bF m w)=true
   .rw[if_pos hg];show y.rs++[newR y.rs (bF m w)]=eG ((y.ks++[w]).map (bF m))
    rw[List.map_append,List.map_cons,List.map_nil,oG,<- hr];exact (if_pos hg).symm
   .rw[if_neg hg];exact hr
  cases hk:(oJ m w y).1 with
  | true=>exact Dc ok n6 h1 hz N _ _ (ht hk).1 keep (by have:=(ht hk).2;omega)
  | false=>exact Dc ok n6 h1 hz N _ _ (hf hk).1 keep (by have:=(hf hk).2;omega)
theorem QD (h:gu m B [] y)(ok:m.Ok)(hw:iV m.k w):bM y.rs (bF m w)=false:=by
 obtain⟨V,j,_⟩:=h.join;refine (Ad j.ech (jl ok w)).2 ((j.Kz.reach w hw λq hq=>by cases hq).trans λb hb=>?_)
 obtain⟨u,hu,rfl⟩:=kK hb;exact j.kept u (dV.1 hu).1
theorem bu2 {α β:Type}{f:α->β}{d:α}{e:β}{l:List α}{i:Nat}(hi:i<l.length):(l.map f).getD i e=f (l.getD i d):=by
 rw[jh,List.getElem?_map,lQ hi,jh,lQ hi];rfl
theorem aI4 (ok:m.Ok)(z:m.Sz e)(hi:i<(aV m).length)(hs:s<m.k)(hl:iV m.k l) :
  yH m (((aV m).getD i []++[((s+1:Nat):Int)])++l)=y8 (λu l=>yH m (u++l)) (aV m) (λj=>(ul m (aV m) i s).getD j 0) l:=by
 obtain⟨y,hy,hb⟩:=LG (iH ok) z.turn;obtain⟨mv,v⟩:=CX ok hy;have hsh:=Ap (iH ok) z.turn;have hm6:=z.n6;have hn:(jU (aA m)).length<=m.n:=by rw[<- hb];exact hy.b.few.2
 obtain⟨x,hx,hr⟩:=Dc (m:=mv) (B:=69177619) v.ok (by rw[v.n];omega) (by decide) (λw hw h6 i=>by
  rw[v.vec w (by rw[<- v.k];exact hw)]
  exact Ku z h6 (λl hl=>by have h1:l.length<m.n:=hsh l hl;omega) i) _ _ _ (gu.start mv 69177619) rfl (Nat.le_refl _)
 have hf:=hy.first ok v hx
 have hK:=CY hf;have vF:∀ u,u ∈ aV m->iV m.k u:=by rw[hK];exact hf.vF
 have hmap:x.ks.map (bF mv)=(aV m).map (aZ m (jU (aA m))):=by
  rw[hK];exact List.map_congr_left λu hu=>v.vec u (hf.vF u hu)
 have hrs:x.rs=eG ((aV m).map (aZ m (jU (aA m)))):=by rw[hr,hmap]
 have hlen:(eG ((aV m).map (aZ m (jU (aA m))))).length=((aV m).map (aZ m (jU (aA m)))).length:=by
  rw[<- hrs,dA,hK];exact hx.b.few.1.symm
 have by9:=XK (n:=(jU (aA m)).length) _ _ rfl (λv hv=>by obtain⟨u,_,rfl⟩:=kK hv;exact fU) hlen
 have hws:iV m.k ((aV m).getD i []++[((s+1:Nat):Int)]):=λq hq=>by
  rcases uy hq with hq|hq
  .exact vF _ (getD_mem hi []) q hq
  .rw[jJ hq];omega
 have hg:bM (eG ((aV m).map (aZ m (jU (aA m))))) (aZ m (jU (aA m)) ((aV m).getD i []++[((s+1:Nat):Int)]))=false:=by
  rw[<- hrs,<- v.vec _ hws];exact QD hx v.ok (by rw[v.k];exact hws)
 have hlr:iV m.k l.reverse:=yJ hl;obtain⟨V,jn,_⟩:=hy.join;rw[hb] at jn;obtain⟨d,hd⟩:=Lu ok jn hlr;have hw:∀ u,yH m (u++l)=bD (λq=>d q*jP m u ((jU (aA m)).getD q [])) (jU (aA m)).length:=λu=>by
  rw[<- hd u,CQ _ u hlr,List.reverse_reverse]
 unfold y8;rw[hw];have e1:∀ q,q<(jU (aA m)).length->jP m ((aV m).getD i []++[((s+1:Nat):Int)]) ((jU (aA m)).getD q [])=bD (λj=>(ul m (aV m) i s).getD j 0*jP m ((aV m).getD j []) ((jU (aA m)).getD q [])) (aV m).length:=λq hq=>by
  have h:=by9.find fU hg hq;rw[xg hq,dA] at h;rw[h];refine aJ λj hj=>?_;rw[bu2 (d:=[]) hj,xg hq];rfl
 rw[aJ (g:=λq=>bD (λj=>(ul m (aV m) i s).getD j 0*(jP m ((aV m).getD j []) ((jU (aA m)).getD q [])*d q)) (aV m).length) λq hq=>by
  show d q*_=_
  rw[e1 q hq,Rat.mul_comm,<- tN];exact aJ λj _=>Rat.mul_assoc ..,pz]
 refine aJ λj _=>?_;show bD (λq=>_*_) _=_*yH m _
 rw[iq,hw];congr 1;exact aJ λq _=>Rat.mul_comm ..
end
end Go.AL
namespace Go.Proofs.YtanlenlmihoiiaaGreatDoor
open Go Go.AL
theorem Kw:∀ (k:Nat) (vs:List (List Rat)),vs.length=k->(eG vs).length=vs.length->vV vs
 | 0,vs,h,_=>λi hi=>by omega
 | k + 1, vs, h, he => by
  have hne:vs≠[]:=λe=>by rw[e] at h;cases h
  obtain⟨z,x,rfl⟩:∃ z x,vs=z++[x]:=⟨vs.dropLast,vs.getLast hne,(List.dropLast_concat_getLast hne).symm⟩;rw[jd,iY] at h;have hle:=Gt k z (by omega)
  rw[oG,jd,iY] at he;by_cases hg:bM (eG z) x=true
  .rw[show uK (eG z) x=eG z++[newR (eG z) x] from if_pos hg,jd,iY] at he
   have ih:=Kw k z (by omega) (by omega)
   intro i hi;rw[jd,iY] at hi;rcases Nat.lt_or_ge i z.length with h1|h1
   .rw[List.take_append_of_le_length (Nat.le_of_lt h1),jh,List.getElem?_append_left h1,<- jh];exact ih i h1
   .have e:i=z.length:=by omega
    subst e;rw[List.take_append_of_le_length (Nat.le_refl _),List.take_length,jh,List.getElem?_append_right (Nat.le_refl _),Nat.sub_self];exact hg
  .rw[show uK (eG z) x=eG z from if_neg hg] at he
   omega
theorem QE {vs:List (List Rat)}{n:Nat}(g:vV vs)(hl:∀ v,v ∈ vs->v.length=n)(n6:vs.length<=6)(nn:n<=6)(zv:∀ v,v ∈ vs->∀ i,sz (v.getD i 0)<=16777215)(n1:1<=n){v:List Rat}(hv:v.length=n)(zz:∀ i,sz (v.getD i 0)<=16777215) :
  ai P F.ql [.d (.sl (vs.map dJ)),.d (dJ v)] (.mM [.d (.sl ((if bM (eG vs) v=true then vs++[v] else vs).map dJ)),.d (dB (bM (eG vs) v)),.d (dI 0)]):=by
 cases hg:bM (eG vs) v with
 | true=>exact Zy g hl n6 nn zv n1 hv zz hg
 | false=>exact Zz g hl n6 nn zv n1 hv zz hg
theorem ao8 {m mv:bV}(v:IK m mv)(hvn:mv.n=(bL m).length)(h0:(bL m).length=0):gu mv 16777215 [] ⟨[],[]⟩:=by
 have hl:bF mv []=[]:=Hl (by rw[jl v.ok,hvn,h0])
 have hg:bM ([]:List bZ) (bF mv [])=false:=by rw[hl];rfl
 have h:=((gu.start mv 16777215).next v.ok (by decide) (λi=>by rw[hl,show ([]:List Rat).getD i 0=0 from rfl,fH];decide)).2 (by rw[CV hg])
 rw[CV hg] at h;exact h.1
set_option maxRecDepth 8000 in
set_option maxHeartbeats 6400000 in
theorem Vl {a:Au}{s9:Nat}(k:Au.Rk a s9)(st5:a.st<=5){mv:bV}(v:IK (ah [a]) mv):jA P F.rV [yV a,.d (.sl ((tV (aA (ah [a])) (bL (ah [a]))).map dJ))] jH (λy:y7=>.mM [.d (.sl (y.ks.map ints)),.d (.sl ((y.ks.map (aZ (ah [a]) (bL (ah [a])))).map dJ))]) (λ_=>jH) (λy=>gu mv 16777215 [] y/\y.rs=eG (y.ks.map (aZ (ah [a]) (bL (ah [a]))))):=by
 obtain⟨ok,fl,z6,hn⟩:=k.fa.Qe;have s4:=k.fa.s4;have hk:(ah [a]).k=a.sym:=xE;have hvk:mv.k=a.sym:=v.k.trans hk;have hvn:mv.n=(bL (ah [a])).length:=v.n;have hL:Nu (ah [a]):=C9 ok z6;obtain⟨hl6,hl5,hlw⟩:=hL.len (by omega)
 have hll:(tV (aA (ah [a])) (bL (ah [a]))).length=(bL (ah [a])).length:=J4;have bg5:iP mv [[]] ([]:List bZ)<=1000:=by
   unfold iP;have:=Nat.mul_le_mul (show mv.k+1<=5 by omega) (show mv.n-([]:List bZ).length<=6 by omega)
   simp only[iY];omega
 refine jA.intro fn.rV (by rfl) (by rfl) (ay (by rfl)) λE hE=>(AW.sg hE rfl (iO rfl rfl λb2=>(jK rfl (jK rfl (OL.nil (AW.sg hE rfl (jK rfl ?_)))))))
 refine OL.nil (AW.seq (AW.own 6 41 T.ints 1 rfl rfl (AW.rg hE rfl (jK rfl (OL.nil (AW.seq (AW.sg hE rfl ?_)))))));refine aj rfl (fF sl.dw rfl rfl (fG rfl rfl rfl (OL.nil (AW.cond rfl (λh0=>?_) (λh0=>?_)))))
 .have h0:(bL (ah [a])).length=0:=by have:=lK h0;omega
  refine AW.sg hE rfl (jK rfl (jK rfl (OL.nil ?_)));exact AW.ret ⟨(⟨[],[]⟩:y7),⟨ao8 v hvn h0,rfl⟩,⟨_,.tmp rfl (.tmp rfl .nil),_,.cons (.le (bW.mt)) (.cons (.le (bW.mt)) .nil),rfl⟩,λid blk hk=>by cases hk⟩
 .have h0:0<(bL (ah [a])).length:=by have:=nZ h0;omega
  refine AW.skip (AW.sg hE rfl (aN3 (y:=ints []) sl.gB VC.mt.vd rfl (by decide) rfl λb17=>(pV rfl (OL.nil (AW.seq (AW.block (AW.rename 17 55 rfl ?_)))))))
  refine AW.aY (α:=y7 × List (List Int) × List D × Nat × Nat × Nat × Nat) [(1,_),(2,_),(4,_),(5,_)] [(2,_)] (λ(y,Q,P0,d0,c0,bw,cw)=>[(6,.bI 41 bw y.ks.length cw),(7,.d (.sl ((y.ks.map (aZ (ah [a]) (bL (ah [a])))).map dJ))),(8,.xu 55 d0 1 P0.length Q.length c0)]) (λ(y,Q,P0,d0,c0,bw,cw)=>[(41,.row bw cw T.ints 1 (y.ks.map ints)),(55,.row d0 (P0.length+c0) T.ints 1 (P0++Q.map ints))]) (λ(y,Q,P0,d0,c0,bw,cw)=>gu mv 16777215 Q y/\y.rs=eG (y.ks.map (aZ (ah [a]) (bL (ah [a]))))/\iP mv Q y.rs<=1000) (λ(y,Q,P0,d0,c0,bw,cw)=>iP mv Q y.rs) (⟨[],[]⟩,[[]],[],b17,1,0,0) (.cons (di rfl) (.cons (iw rfl) (.cons (xK rfl) (.cons (xK rfl) .nil)))) (.cons (je rfl) .nil) ⟨⟨gu.start _ _,rfl,bg5⟩,.cons vR (.cons (bW.mt) (.cons OQ .nil)),.cons rfl (.cons rfl .nil)⟩ ?_
  rintro⟨y,Q,P0,d0,c0,bw,cw⟩ ⟨hI,hR,hm1⟩
  have hI:gu mv 16777215 Q y:=hI;have hR:y.rs=eG (y.ks.map (aZ (ah [a]) (bL (ah [a])))):=hR;have hm1:iP mv Q y.rs<=1000:=hm1;have hQl:Q.length<=iP mv Q y.rs:=Nat.le_add_right _ _;obtain⟨hf1,hf2⟩:=hI.b.few;have hkl:(y.ks.map (aZ (ah [a]) (bL (ah [a])))).length=y.ks.length:=dA ..;refine AW.seq (AW.sg hE rfl (mvB rfl (lnB sl.gB rfl rfl (jI rfl rfl rfl (OL.nil (AW.cond rfl (λhQ=>?_) (λhQ=>?_)))))))
  .have hQ:0<Q.length:=by have:=lK hQ;omega
   refine AW.skip (AW.block (AW.seq (AW.rowLen 55 rfl λhcl=>?_)));rw[jd,dA] at hcl;obtain⟨c0,rfl⟩:∃ c9,c0=c9+1:=⟨c0-1,by omega⟩
   obtain⟨w,Q,rfl⟩:∃ w Q9,Q=w::Q9:=(match Q,hQ with|w::Q9,_=>⟨w,Q9,rfl⟩)
   have hw5:=LC hI (by omega) w pU
   have hwi:iV a.sym w:=by have:=TN hI w pU;rwa [hvk] at this
   have hfv:bF mv w=((aZ (ah [a]) (bL (ah [a]))) w):=v.vec w (by rw[hk];exact hwi)
   have hfl:((aZ (ah [a]) (bL (ah [a]))) w).length=(bL (ah [a])).length:=fU;have hzv:∀ i,sz (((aZ (ah [a]) (bL (ah [a]))) w).getD i 0)<=16777215:=λi=>ug z6 hw5 hl5 i;have hk5:=hI.b.five (show mv.n<=6 by omega)
   have hG:vV (y.ks.map (aZ (ah [a]) (bL (ah [a])))):=Kw _ _ rfl (by rw[<- hR,hkl];omega)
   have hlv:∀ u,u ∈ y.ks.map (aZ (ah [a]) (bL (ah [a])))->u.length=(bL (ah [a])).length:=λu hu=>by obtain⟨x,_,rfl⟩:=kK hu;exact fU
   have hzs:∀ u,u ∈ y.ks.map (aZ (ah [a]) (bL (ah [a])))->∀ i,sz (u.getD i 0)<=16777215:=λu hu i=>by obtain⟨x,hx,rfl⟩:=kK hu;exact ug z6 (hk5 x hx) hl5 i
   rw[List.length_cons] at hQl;refine AW.rg hE rfl (mvB rfl (bb7 (n:=0) sl.gB rfl rfl (by rw[List.length_cons];omega) (i:=P0.length) rfl (Uj ce.ints (by decide) rfl rfl be7 (d:=ints w) rfl (aF rfl (OL.nil (AW.sg hE rfl (mvB rfl ?_)))))))
   refine bb6 (l:=1) sl.gB rfl rfl (by rw[List.length_cons];omega) (o2:=P0.length+1) rfl (n2:=Q.length) rfl (asB rfl (OL.nil (AW.sg hE rfl (aj rfl (aQ ag.Auto rfl rfl (vs:=[_,_,_,_,_,_,_]) rfl (ay rfl) (aj rfl (aj rfl ?_)))))))
   refine bH rfl vL (aH0 k hwi (by omega) (by omega) (λl hl=>Nat.le_succ_of_le (hl5 l hl))) (bH rfl vL (QE hG hlv (by omega) (by omega) hzs h0 hfl hzv) ?_)
   rw[<- hR];refine Di rfl (ex rfl rfl (ex rfl rfl (ex rfl rfl (aF rfl (aF rfl (aF rfl (OL.nil ?_)))))));refine AW.seq (AW.sg hE rfl (aj rfl (nt rfl (OL.nil (AW.cond rfl (λhg=>?_) (λhg=>?_))))))
   .have hg:bM y.rs ((aZ (ah [a]) (bL (ah [a]))) w)=false:=by simpa using hg
    have hnf:=(hI.next v.ok (by decide) (by rw[hfv];exact hzv)).2 (by rw[CV (by rw[hfv];exact hg)])
    rw[CV (by rw[hfv];exact hg)] at hnf
    refine AW.exit ?_;exact AW.again (x:=(y,w::Q,P0,d0,c0+1,bw,cw)) (y,Q,P0++[ints w],d0,c0,bw,cw) (by exact hnf.2) ⟨⟨hnf.1,hR,by have h9:iP mv Q y.rs<iP mv (w::Q) y.rs:=hnf.2;omega⟩,Knows.app .LV (.cons vR (.cons vR (.cons (by rw[jd];exact bW.refl _) .nil))),dL.app (.cons rfl .nil) (.cons rfl (.cons G6 .nil))⟩
   .have hg:bM y.rs ((aZ (ah [a]) (bL (ah [a]))) w)=true:=by simpa using hg
    have hnt:=(hI.next v.ok (by decide) (by rw[hfv];exact hzv)).1 (by rw[GZ (by rw[hfv];exact hg)])
    rw[GZ (by rw[hfv];exact hg),hfv,hvk] at hnt
    have hR2:(⟨y.ks++[w],y.rs++[newR y.rs ((aZ (ah [a]) (bL (ah [a]))) w)]⟩:y7).rs=eG ((⟨y.ks++[w],y.rs++[newR y.rs ((aZ (ah [a]) (bL (ah [a]))) w)]⟩:y7).ks.map (aZ (ah [a]) (bL (ah [a])))):=by
     show y.rs++[newR y.rs ((aZ (ah [a]) (bL (ah [a]))) w)]=eG ((y.ks++[w]).map (aZ (ah [a]) (bL (ah [a]))))
     rw[List.map_append,List.map_cons,List.map_nil,oG,<- hR];exact (if_pos hg).symm
    rw[if_pos hg,show y.ks.map (aZ (ah [a]) (bL (ah [a])))++[((aZ (ah [a]) (bL (ah [a]))) w)]=(y.ks++[w]).map (aZ (ah [a]) (bL (ah [a]))) from by rw[List.map_append];rfl]
    refine AW.skip (AW.sg hE rfl (iU rfl (aj rfl (rF (y:=ints w) sl.gB (VC.d _).vd rfl (by decide) ?_))))
    refine xZ sl.gB rfl rfl rfl (by rw[dA]) (VC.d _) (λy hy=>by rw[jJ hy];rfl) (by simp only[iY];omega) (by simp only[iY];omega) (.inr rfl) (ys:=(y.ks++[w]).map ints) (by rw[List.map_append];rfl) (n2:=(y.ks++[w]).length) (by rw[jd];rfl) λb41 c41=>?_
    refine aj rfl (pV rfl (aF rfl (OL.nil (AW.sg hE rfl (aF rfl (OL.nil (AW.block ?_)))))));refine AW.aY (α:=Nat × List D × Nat × Nat) [(1,_),(2,_),(4,_),(5,_),(6,_),(7,_),(9,_)] [(2,_),(41,_)] (λ(s,U,b,c)=>[(8,.xu 55 b 1 U.length (Q++cu s w).length c),(13,.d (dI ((s:Int)+1)))]) (λ(s,U,b,c)=>[(55,.row b (U.length+c) T.ints 1 (U++(Q++cu s w).map ints))]) (λ(s,U,b,c)=>s<=a.sym) (λ(s,U,b,c)=>a.sym-s) (0,P0++[ints w],d0,c0) (.cons (di rfl) (.cons (iw rfl) (.cons (xK rfl) (.cons (xK rfl) (.cons (zA rfl) (.cons (di rfl) (.cons (di rfl) .nil))))))) (.cons (je rfl) (.cons (qZ rfl) .nil)) ⟨Nat.zero_le _,.cons (by rw[show (P0++[ints w]).length=P0.length+1 from jd,show cu 0 w=[] from rfl,List.append_nil];exact bW.refl _) (.cons (bW.int (by omega)) .nil),.cons (by rw[show cu 0 w=[] from rfl,List.append_nil];exact G6) .nil⟩ ?_
    rintro⟨s,U,b,c⟩ h1
    have h1:s<=a.sym:=h1;have hkn:=Aj s w;refine AW.seq (AW.sg hE rfl (aj rfl (bC fd.lX rfl rfl (aG ce.int rfl rfl rfl (yM rfl rfl rfl (OL.nil (AW.cond rfl (λh46=>?_) (λh46=>?_))))))))
    .try simp only[fD] at h46
     refine AW.skip (AW.seq (AW.block ?_));have hsk:s<a.sym:=by omega
     have hkl2:(Q++cu (s+1) w).length=(Q++cu s w).length+1:=by rw[xU,<- List.append_assoc,jd];rfl
     have hkm:(Q++cu s w).map ints++[ints (w++[(s:Int)+1])]=(Q++cu (s+1) w).map ints:=by rw[xU,<- List.append_assoc];exact (List.map_append (f:=ints) (l₁:=Q++cu s w) (l₂:=[(w++[(s:Int)+1])])).symm
     have hqs:(Q++cu s w).length<=1010:=by rw[jd,Aj];omega
     have MN:U.length+(Q++cu s w).length=(U++(Q++cu s w).map ints).length:=by rw[show (U++(Q++cu s w).map ints).length=U.length+((Q++cu s w).map ints).length from jd,dA]
     refine AW.rg hE rfl (mvB rfl (aj rfl (aj rfl (rF (y:=dI ((s:Int)+1)) sl.ints (VC.d _).vd rfl (by decide) (bH rfl vL (Vb (w:=w) (u:=[(s:Int)+1]) (by omega) (ay rfl)) (rF (y:=ints (w++[(s:Int)+1])) sl.gB (VC.d _).vd rfl (by decide) (apB sl.gB rfl rfl rfl MN (VC.d _) (λy hy=>by rw[jJ hy];rfl) (by simp only[iY];omega) (by simp only[iY];omega) (.inr rfl) λb55 k55=>?_)))))))
     rw[aD0,List.append_assoc];refine asB rfl (OL.nil ?_);refine AW.to ([(1,.d (.sl ((tV (aA (ah [a])) (bL (ah [a]))).map dJ))),(2,.ptr 2 b2 0),(4,.mt),(5,.mt),(6,.bI 41 b41 (y.ks++[w]).length c41),(7,.d (.sl (((y.ks++[w]).map (aZ (ah [a]) (bL (ah [a])))).map dJ))),(9,.d (ints w)),(13,.d (dI ((s:Int)+1)))]++[(8,.xu 55 b55 1 (qP k55 U).length (Q++cu (s+1) w).length (k55 / 2))]) ([(2,.box b2 T.Auto [.d (dI 1),.d (.sl []),.d (dI a.sym),.d (dI a.st),.d (qG a.ini),.d (qG a.fin),.d (jW a.aN)]),(41,.row b41 c41 T.ints 1 ((y.ks++[w]).map ints))]++[(55,.row b55 ((qP k55 U).length+k55 / 2) T.ints 1 (qP k55 U++(Q++cu (s+1) w).map ints))]) (Knows.app (.cons vR (.cons vR (.cons vR (.cons vR (.cons vR (.cons vR (.cons vR (.cons vR (.nil))))))))) (.cons (by rw[La,hkl2];exact bW.refl _) .nil)) (dL.app (.cons rfl (.cons rfl (.nil))) (.cons (by rw[La,<- hkm];rfl) .nil)) ?_
     generalize qP k55 U=P3;generalize k55 / 2=c3;refine AW.rg hE rfl (aj rfl (aI rfl rfl (by omega) (aF rfl (OL.nil ?_))))
     exact AW.again (x:=(s,U,b,c)) (s+1,P3,b55,c3) (by (simp only[];omega)) ⟨by omega,Knows.app .rq7 (.cons vR (.cons (bW.int (by omega)) .nil)),dL.app (.cons rfl (.cons rfl .nil)) (.cons rfl .nil)⟩
    .try simp only[fD] at h46
     refine AW.exit ?_;obtain rfl:s=a.sym:=(by omega)
     exact AW.again (x:=(y,w::Q,P0,d0,c0+1,bw,cw)) ((⟨y.ks++[w],y.rs++[newR y.rs ((aZ (ah [a]) (bL (ah [a]))) w)]⟩:y7),Q++cu a.sym w,U,b,c,b41,c41) (by exact hnt.2) ⟨⟨hnt.1,hR2,by have h9:iP mv (Q++cu a.sym w) (⟨y.ks++[w],y.rs++[newR y.rs ((aZ (ah [a]) (bL (ah [a]))) w)]⟩:y7).rs<iP mv (w::Q) y.rs:=hnt.2;omega⟩,Knows.app .LV .yU,dL.app (.cons rfl .nil) (.cons rfl (.cons rfl .nil))⟩
  .have hQ:Q.length=0:=by have:=nZ hQ;omega
   obtain rfl:Q=[]:=Hl hQ;refine AW.exit (AW.sg hE rfl (iU rfl (aj rfl (pV rfl (aF rfl (OL.nil ?_))))));exact AW.ret ⟨y,⟨hI,hR⟩,⟨_,.tmp rfl (.tmp rfl .nil),_,.cons (RO.all rfl rfl (dA ..).symm rfl) (.cons (.le vR) .nil),rfl⟩,λid blk hk=>by cases hk⟩

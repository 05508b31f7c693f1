/-
  Walks of package minimal, part 3: the minimal realisation (printed by mk2.py).
-/
import Derived.Test.YtanlenlmihoiiaaGreatDoorKWkBB
set_option linter.unusedVariables false
set_option linter.unusedSimpArgs false
namespace Go.AL
open Go Go.BigFrame
noncomputable def ul (m:bV)(K:List (List Int))(i s:Nat):List Rat:=jS (eG (K.map (aZ m (jU (aA m))))) (aZ m (jU (aA m)) (K.getD i []++[((s+1:Nat):Int)]))
noncomputable def Qu (m:bV)(K:List (List Int))(i s j:Nat):bU:=⟨i,s+1,j,(ul m K i s).getD j 0⟩
noncomputable def XC (m:bV)(K:List (List Int))(i s:Nat):List bU:=(List.range K.length).map (Qu m K i s)
noncomputable def ao2 (m:bV)(K:List (List Int))(i:Nat):List bU:=(List.range m.k).flatMap (XC m K i)
noncomputable def vG (m:bV)(K:List (List Int)):List bU:=(List.range K.length).flatMap (ao2 m K)
noncomputable def J6 (m:bV)(K:List (List Int))(i:Nat):List bU:=(List.range i).flatMap (ao2 m K)
noncomputable def LD (m:bV)(K:List (List Int))(i s:Nat):List bU:=J6 m K i++(List.range s).flatMap (XC m K i)
noncomputable def H7 (m:bV)(K:List (List Int))(i s j:Nat):List bU:=LD m K i s++(List.range j).map (Qu m K i s)
def BG (n:Nat):List Rat:=(List.range n).map λi=>if i=0 then 1 else 0
section
variable {m:bV}{K:List (List Int)}{i s j n B e:Nat}{u:List Int}{rs:List bZ}
theorem G7 {α:Type}(f:Nat->List α)(k:Nat):(List.range (k+1)).flatMap f=(List.range k).flatMap f++f k:=by
 rw[List.range_succ,List.flatMap_append,List.flatMap_cons,List.flatMap_nil,List.append_nil]
theorem G8:H7 m K i s (j+1)=H7 m K i s j++[Qu m K i s j]:=by
 unfold H7;rw[List.range_succ,List.map_append,<- List.append_assoc];rfl
theorem G9:H7 m K i s 0=LD m K i s:=List.append_nil _
theorem J7:H7 m K i s K.length=LD m K i (s+1):=by
 unfold H7 LD;rw[G7,<- List.append_assoc];rfl
theorem He:LD m K i 0=J6 m K i:=List.append_nil _
theorem J8:LD m K i m.k=J6 m K (i+1):=by
 unfold LD J6;rw[G7];rfl
theorem Qv:J6 m K K.length=vG m K:=rfl
theorem xh:(BG n).length=n:=by simp[BG]
theorem J9 {x:bU}:x ∈ vG m K ↔ ∃ i,i<K.length/\∃ s,s<m.k/\∃ j,j<K.length/\x=Qu m K i s j:=by
 unfold vG;rw[List.mem_flatMap];constructor
 .rintro⟨i,hi,h⟩
  obtain⟨s,hs,h⟩:=List.mem_flatMap.1 h;obtain⟨j,hj,rfl⟩:=kK h;exact⟨i,List.mem_range.1 hi,s,List.mem_range.1 hs,j,List.mem_range.1 hj,rfl⟩
 .rintro⟨i,hi,s,hs,j,hj,rfl⟩
  exact⟨i,List.mem_range.2 hi,List.mem_flatMap.2 ⟨s,List.mem_range.2 hs,List.mem_map.2 ⟨j,List.mem_range.2 hj,rfl⟩⟩⟩
theorem Ko {α:Type}{f:Nat->List α}{c:Nat}(h:∀ i,(f i).length=c):∀ k,((List.range k).flatMap f).length=k*c
 | 0=>by rw[Nat.zero_mul];rfl
 | k+1=>by rw[G7,jd,Ko h k,h,Nat.succ_mul]
theorem XD:(XC m K i s).length=K.length:=by simp[XC]
theorem aH4:(ao2 m K i).length=m.k*K.length:=Ko (λ_=>XD) m.k
theorem Kq:(J6 m K i).length=i*(m.k*K.length):=Ko (λ_=>aH4) i
theorem aH5:(LD m K i s).length=i*(m.k*K.length)+s*K.length:=by
 unfold LD;rw[jd,Kq,Ko (λ_=>XD)]
theorem XE:(H7 m K i s j).length=i*(m.k*K.length)+s*K.length+j:=by
 unfold H7;rw[jd,aH5,dA,List.length_range]
theorem Kr {L:List (List Int)}(z:m.Sz e)(hu:u.length<=3)(hL:∀ l,l ∈ L->l.length<=3)(i:Nat):sz ((aZ m L u).getD i 0)<=201700:=by
 have bound:∀ {m:bV},m.Sz e->∀ {w:List Int},w.length<=3->∀ i,sz ((bF m w).getD i 0)<=16807:=λ{m} z {w} hw i=>by
  have h:=JH z w.length w rfl i;have h1:7 ^ w.length<=343:=Nat.pow_le_pow_right (n:=7) (by decide) hw
  have h2:7 ^ w.length*(2*e+1)<=343*49:=Nat.mul_le_mul h1 (by have:=z.e24;omega)
  omega
 rcases Nat.lt_or_ge i L.length with hi|hi
 .rw[xg hi];have h:=KY (n:=m.n) z.n6 (bound z hu) (bound z.turn (hL _ (getD_mem hi [])));exact Nat.le_trans h (by omega)
 .rw[vS (by rw[fU];exact hi),fH];decide
theorem aH6 {w:List Rat}(h:Nq B rs)(h1:1<=B)(hw:∀ i,sz (w.getD i 0)<=B)(i:Nat):sz ((jS rs w).getD i 0)+1<=4 ^ rs.length*(B+1):=h.tX h1 hw rs.length i
theorem TR:(ul m K i s).length=(eG (K.map (aZ m (jU (aA m))))).length:=Bq _ _
theorem Qw (z:m.Sz e)(hL:∀ l,l ∈ jU (aA m)->l.length<=3)(hK:∀ u,u ∈ K->u.length<=2)(h3:K.length<=3)(hr:(eG (K.map (aZ m (jU (aA m))))).length<=3)(i s j:Nat):sz ((ul m K i s).getD j 0)<=134217728:=by
 have hv:∀ v,v ∈ K.map (aZ m (jU (aA m)))->∀ i,sz (v.getD i 0)<=201700:=λv hv i=>by
  obtain⟨u,hu,rfl⟩:=kK hv;exact Kr z (Nat.le_succ_of_le (hK u hu)) hL i
 obtain⟨sp,_,_⟩:=aH3 (n:=(jU (aA m)).length) (B:=201700) (by decide) (K.map (aZ m (jU (aA m)))) (λv hv=>by obtain⟨u,_,rfl⟩:=kK hv;exact fU) hv
 have hki:(K.getD i []).length<=2:=by
  rcases Nat.lt_or_ge i K.length with hi|hi
  .exact hK _ (getD_mem hi [])
  .rw[jh,List.getElem?_eq_none hi];exact Nat.zero_le _
 have h:=aH6 sp.sz (by decide) (w:=aZ m (jU (aA m)) (K.getD i []++[((s+1:Nat):Int)])) (λq=>Kr z (by rw[jd,iY];omega) hL q) j
 have h4:=Nat.pow_le_pow_right (n:=4) (by decide) hr
 have h5:=Nat.mul_le_mul_right (201700+1) h4;unfold ul;omega
theorem XF (hs:s<m.k)(hi:i<K.length)(hj:j<K.length):jf (vG m K) s i j=(ul m K i s).getD j 0:=by
 have key:∀ (g:Nat->List bU) (N:Nat) (t:Nat),(∀ x,x<N->x≠t->jf (g x) s i j=0)->t<N->jf ((List.range N).flatMap g) s i j=jf (g t) s i j:=by
  intro g N t h0 ht;have low:∀ q,q<=N->jf ((List.range q).flatMap g) s i j=if t<q then jf (g t) s i j else 0:=by
   intro q
   induction q with
   | zero=>intro _;rw[if_neg (Nat.not_lt_zero _)];rfl
   | succ q ih =>
    intro hq;rw[G7,yT,ih (by omega)]
    by_cases e:q=t
    .subst e;rw[if_neg (Nat.lt_irrefl _),if_pos (Nat.lt_succ_self _),Rat.zero_add]
    .rw[h0 q (by omega) e,Rat.add_zero]
     by_cases hlt:t<q
     .rw[if_pos hlt,if_pos (by omega)]
     .rw[if_neg hlt,if_neg (by omega)]
  rw[low N (Nat.le_refl _),if_pos ht]
 unfold vG;rw[key (ao2 m K) K.length i (λx _ hx=>?_) hi]
 .unfold ao2;rw[key (XC m K i) m.k s (λx _ hx=>?_) hs]
  .have e:XC m K i s=(List.range K.length).flatMap λj=>[Qu m K i s j]:=by
    unfold XC
    induction K.length with
    | zero=>rfl
    | succ q ih=>rw[List.range_succ,List.map_append,List.flatMap_append,ih];rfl
   rw[e,key (λj=>[Qu m K i s j]) K.length j (λx _ hx=>?_) hj]
   .rw[pF,uN,Rat.add_zero];exact if_pos ⟨rfl,rfl,rfl⟩
   .rw[pF,uN,Rat.add_zero];exact if_neg λh=>hx h.2.2
  .refine PK λy hy=>if_neg λh=>?_;obtain⟨q,_,rfl⟩:=kK hy;have:x+1=s+1:=h.2.1;omega
 .refine PK λy hy=>if_neg λh=>?_;obtain⟨q,_,hy⟩:=List.mem_flatMap.1 hy;obtain⟨p,_,rfl⟩:=kK hy;exact hx h.1
end
noncomputable def Zw (a:Au):Au:=⟨a.sym,(aV (ah [a])).length,BG (aV (ah [a])).length,(aV (ah [a])).map (xA a),vG (ah [a]) (aV (ah [a]))⟩
section
variable {a:Au}
theorem af9 (h:1<=a.sym):(Zw a).Ok :=
 ⟨h,xh,dA ..,λx hx=>by
  obtain⟨i,hi,s,hs,j,hj,rfl⟩:=J9.1 hx;rw[show (ah [a]).k=a.sym from xE] at hs
  exact⟨hi,hj,Nat.succ_le_succ (Nat.zero_le _),hs⟩⟩
end
end Go.AL
namespace Go.Proofs.YtanlenlmihoiiaaGreatDoor
open Go Go.AL
abbrev cW (q:Rat):List V:=[.d (dB (fZ q).neg),.d (aH (fZ q).num),.d (aH (fZ q).den),.d (dI 0),.d (dB false),.d (dU 0),.d (.sl []),.d (.sl [])]
theorem aV8:fK [.d (dB false),.mt,.mt,.d (dI 0),.d (dB false),.d (dU 0),.mt,.mt] (cW 0):=by
 unfold cW;rw[rO];exact .cons vR (.cons bW.mt (.cons bW.mt (.cons vR (.cons vR (.cons vR (.cons bW.mt (.cons bW.mt .nil)))))))
theorem aV9 {q:Rat}:fK [.d (dB (fZ q).neg),.d (aH (fZ q).num),.d (aH (fZ q).den),.d (dI 0),.d (dB false),.d (dU 0),.mt,.mt] (cW q):=.cons vR (.cons vR (.cons vR (.cons vR (.cons vR (.cons vR (.cons bW.mt (.cons bW.mt .nil)))))))
theorem a02 {q:Rat}:VD (.ag [.d (dB (fZ q).neg),.d (aH (fZ q).num),.d (aH (fZ q).den),.d (dI 0),.d (dB false),.d (dU 0),.mt,.mt]) (dW q) :=
 VD.ag (.cons (VC.d _) (.cons (VC.d _) (.cons (VC.d _) (.cons (VC.d _) (.cons (VC.d _) (.cons (VC.d _) (.cons VC.mt (.cons VC.mt .nil))))))))
theorem ag0 {x:bU}:VD (.ag [.d (dI x.f),.d (dI x.l),.d (dI x.t),.d (dB (fZ x.q).neg),.d (aH (fZ x.q).num),.d (aH (fZ x.q).den),.d (dI 0),.d (dB false),.d (dU 0),.mt,.mt]) (jG x) :=
 VD.ag (.cons (VC.d _) (.cons (VC.d _) (.cons (VC.d _) (.cons (VC.d _) (.cons (VC.d _) (.cons (VC.d _) (.cons (VC.d _) (.cons (VC.d _) (.cons (VC.d _) (.cons VC.mt (.cons VC.mt .nil)))))))))))
theorem XG {f:Nat->Rat}{n i:Nat}(h:i<n):(((List.range n).map f).take (i+1))=((List.range n).map f).take i++[f i]:=by
 rw[iL 0 (by simp;exact h),aT _ _ h]
theorem ao3 {mv:bV}{B:Nat}{y:y7}(h:gu mv B [] y){w:List Int}(hw:iV mv.k w)(ok:mv.Ok):bM y.rs (bF mv w)=false:=by
 obtain⟨V,j,_⟩:=h.join;refine (Ad j.ech (jl ok w)).2 ((j.Kz.reach w hw λq hq=>by cases hq).trans λb hb=>?_)
 obtain⟨u,hu,rfl⟩:=kK hb;exact j.kept u (dV.1 hu).1
theorem Qx {a:Au}{K:List (List Int)}{i:Nat}(hi:i<K.length):(K.map (xA a)).getD i 0=xA a (K.getD i []):=by
 rw[jh,List.getElem?_map,lQ hi,jh,lQ hi];rfl
theorem IL {a:Au}(h:1<=a.sym):∀ x,x ∈ dK (vG (ah [a]) (aV (ah [a])))->x.f<(aV (ah [a])).length/\x.t<(aV (ah [a])).length/\1<=x.l/\x.l<=a.sym :=
 gQ.tidy (p:=λf l t=>f<(aV (ah [a])).length/\t<(aV (ah [a])).length/\1<=l/\l<=a.sym) (af9 h).arc
theorem aW0 {a:Au}(h:1<=a.sym):(⟨a.sym,(aV (ah [a])).length,BG (aV (ah [a])).length,(aV (ah [a])).map (xA a),dK (vG (ah [a]) (aV (ah [a])))⟩:Au).Ok :=
 ⟨h,xh,dA ..,IL h⟩
theorem ao4 {a:Au}(h:1<=a.sym){x:bU}(hx:x ∈ dK (vG (ah [a]) (aV (ah [a])))):x.q=(ul (ah [a]) (aV (ah [a])) x.f (x.l-1)).getD x.t 0:=by
 obtain⟨h1,h2,h3,h4⟩:=IL h x hx;rw[<- Bv (JC _) hx h3,Af];exact XF (by rw[xE];omega) h1 h2
theorem ag1 {a:Au}(h:1<=a.sym)(z:(ah [a]).Sz 24)(hK:∀ u,u ∈ aV (ah [a])->u.length<=2)(hnl:(vG (ah [a]) (aV (ah [a]))).length<=20)(hnz:∀ i s j,sz ((ul (ah [a]) (aV (ah [a])) i s).getD j 0)<=134217728):(⟨a.sym,(aV (ah [a])).length,BG (aV (ah [a])).length,(aV (ah [a])).map (xA a),dK (vG (ah [a]) (aV (ah [a])))⟩:Au).Sz 134217728 20:=by
 refine⟨λq hq=>?_,λq hq=>?_,λx hx=>?_,Nat.le_trans (Ah _) hnl⟩
 .obtain⟨i,_,rfl⟩:=kK hq;by_cases h0:i=0
  .rw[if_pos h0,FO];decide
  .rw[if_neg h0,fH];decide
 .obtain⟨u,hu,rfl⟩:=kK hq;show sz (vX _ _ _)<=_
  have h:=KY (n:=(ah [a]).n) (u:=vf (bF (ah [a]) u)) (v:=vf (ah [a]).fin) z.n6 (λi=>jY z (by have:=hK u hu;omega) i) z.fin
  exact Nat.le_trans h (by decide)
 .rw[ao4 h hx];exact hnz _ _ _
theorem bs9 {v:List Rat}{n b:Nat}{B:NP}{rs:List bZ}(sp:uO n 16777215 rs)(hv:v.length=n)(n6:n<=6)(zv:∀ i,sz (v.getD i 0)<=16777215)(hg:bM rs v=false):gq P F.uU [.ptr 1000 b 0,.d (dJ v)] (spM b B rs) (.mM [.d (dJ (jS rs v)),.d (dB true)]) (spM b B rs):=by
 have hle:=sp.le;obtain⟨zl,zt⟩:=sp.sz.last (w:=v) (by omega) zv
 have hvl:(aO rs v).length=v.length:=jk _ _;refine gq.intro fn.uU (by rfl) (by rfl) (ay (by rfl)) λE hE=>(AW.sg hE rfl (jK rfl (aF rfl (OL.nil (AW.sg hE rfl (Ym rfl (aj rfl ?_)))))))
 refine aj1 (qY:=[.ptr 1000 b 0,.d (dJ v)]) rfl vL (ad9 (b:=b) (B:=B) sp hv n6 zv) (λid blk hk=>oh (l:=X7 b B rs) (.cons rfl (.cons rfl (.cons rfl (.cons rfl trivial)))) id blk hk) (Di rfl (ex rfl rfl (ex rfl rfl (aF rfl (aF rfl (OL.nil (AW.seq ?_)))))));refine AW.sg hE rfl (aj rfl (bH rfl vL (aC0 (w:=aO rs v) (by omega) (λi=>Nat.le_succ_of_le (zl i))) (qX rfl rfl (c:=false) (decide_eq_false (by have:=II.2 hg;omega)) (OL.nil (oH rfl ?_)))))
 exact AW.skip (AW.sg hE rfl (aj rfl (aF rfl (aF rfl (OL.nil (AW.ret ⟨⟨_,.tmp rfl (.tmp rfl .nil),_,.cons (.le vR) (.cons (.le vR) .nil),rfl⟩,λid blk hk=>oh (l:=X7 b B rs) (.cons rfl (.cons rfl (.cons rfl (.cons rfl trivial)))) id blk hk⟩))))))
set_option maxRecDepth 8000 in
set_option maxHeartbeats 12800000 in
theorem XH {a:Au}{s:Nat}(t:Au.Take a s)(s1:1<=s)(s2:s<=2)(st4:a.st<=4)(rk3:rkA a<=3):ai P F.mW [yV a] (.mM [yV (⟨a.sym,(aV (ah [a])).length,(BG (aV (ah [a])).length),((aV (ah [a])).map (xA a)),dK (dK (vG (ah [a]) (aV (ah [a]))))⟩:Au),.d (dI 0)]):=by
 obtain⟨ok,fl,z6,hn⟩:=JD t (Nat.le_trans s2 (by decide))
 have hst1:=t.st1;have hsz:aS [a]=a.st:=kG;have hk:(ah [a]).k=a.sym:=xE;have hs:a.sym=s:=t.fit.sym;have hL:Nu (ah [a]):=C9 ok z6;obtain⟨zs,hz,hze⟩:=hL.inv;obtain⟨mv,v⟩:=CX ok hz;have hl6:=(hL.len (by omega)).1
 have hvn:mv.n=(bL (ah [a])).length:=v.n;have hl3:∀ l,l ∈ jU (aA (ah [a]))->l.length<=3:=λl hl=>by
   have h1:=hz.short l (by rw[hze];exact hl)
   have h2:=hz.b.few.2;have h3:(aA (ah [a])).n=(ah [a]).n:=rfl;omega
 refine ai.intro fn.mW (by rfl) (by rfl) (ay (by rfl)) λE hE=>(AW.sg hE rfl (iO rfl rfl λb1=>(al z.Auto rfl λb2=>(aF rfl (OL.nil (AW.seq (AW.sg hE rfl ?_)))))))
 refine aQ ag.Auto rfl rfl (vs:=[_,_,_,_,_,_,_]) rfl (ay rfl) (rF (y:=dAu a) sl.uI SE rfl (by decide) (bH rfl vL (Y5 (l:=[a]) (s:=s) (an1 t.fit) ⟨Nat.le_of_ble_eq_true rfl,Nat.le_of_ble_eq_true rfl⟩) (aF rfl (OL.nil (AW.sg hE rfl (aj rfl (eX rfl rfl (c:=false) (by exact kY (by omega)) ?_)))))))
 refine OL.nil (oH rfl ?_);refine AW.skip (AW.sg hE rfl (aQ ag.Auto rfl rfl (vs:=[_,_,_,_,_,_,_]) rfl (ay rfl) (rF (y:=dAu a) sl.uI SE rfl (by decide) (bH rfl vL (OfQ (l:=[a]) (by rw[show (([a]:List Au).getD 0 default).sym=s from t.fit.sym];exact an1 t.fit) ⟨Nat.le_of_ble_eq_true rfl,Nat.le_of_ble_eq_true rfl⟩ (by omega) (by omega)) (al z.Machine rfl λb5=>(fA sz.Machine rfl rfl rfl rfl rfl (ay rfl) (cells2:=[_,_,_]) rfl (OL.nil ?_)))))))
 refine AW.seq (AW.sO (by rw[hE];rfl) (SK.gV (aQ ag.Machine rfl rfl (vs:=[_,_,_]) rfl (ay rfl) (OL.nil ?_))))
 refine SK.Hu (SO.Xx (args':=[wZ (ah [a])]) (show 32<E.n by rw[hE];exact Nat.le_of_ble_eq_true (by rfl)) rfl vL (TP (m:=(ah [a])) (mv:=mv) ok fl z6 (by omega) (by omega) hL v) ?_)
 rintro⟨y,B,b⟩ hI
 have hI:gu mv 16777215 [] y/\y.rs=eG (y.ks.map (aZ (ah [a]) (bL (ah [a])))):=hI;have e1:y.ks=(aV (ah [a])):=(CY (hz.first ok v hI.1)).symm
 have bt0:y.ks.length=rkA a:=by rw[hz.rank ok v hI.1,hk];rfl
 have hfew:=hI.1.b.few;have hshort:=hI.1.short;have hrs:=hI.2;have hsp:=hI.1.sp;have hgf:∀ w,iV a.sym w->bM y.rs ((aZ (ah [a]) (bL (ah [a]))) w)=false:=λw hw=>by
  have h9:=ao3 hI.1 (w:=w) (by rw[v.k,hk];exact hw) v.ok
  rwa [v.vec w (by rw[hk];exact hw)] at h9
 have hkw:∀ u,u ∈ y.ks->iV a.sym u:=λu hu=>by have:=hI.1.vF u hu;rwa [v.k,hk] at this
 rw[e1] at hfew hshort hrs hkw bt0;have hk3:(aV (ah [a])).length<=3:=by omega
 have hk2:∀ u,u ∈ (aV (ah [a]))->u.length<=2:=λu hu=>by have:=hshort u hu;omega
 dsimp only
 rw[e1];refine SK.gV (Di rfl (OL.nil ?_));refine SK.gV (ex rfl rfl (OL.nil ?_));refine SK.gV (ex rfl rfl (OL.nil ?_));refine SK.gV (ex rfl rfl (OL.nil ?_));refine SK.gV (aF rfl (OL.nil ?_));refine SK.gV (asP rfl (OL.nil ?_));refine SK.gV (asF rfl (OL.nil ?_));refine SK.nil (AW.sg hE rfl (bH rfl .iW (FZ (n:=1) (d:=1) (by decide) (by decide) (by decide)) ?_))
 rw[q11];refine Di rfl (ex rfl rfl (ex rfl rfl (al z.Rat rfl λb9=>(fA sz.Rat rfl rfl rfl rfl rfl (ay rfl) (cells2:=[_,_,_]) rfl (aF rfl (OL.nil (AW.sg hE rfl ?_)))))));refine bd z.Ring pl.Ring (cs:=[_,_]) rfl (bC fd.lX rfl rfl (aG ce.int rfl rfl rfl (aj rfl (fF sl.xC rfl rfl (L6 (cs:=[_,_,_,_,_,_,_]) z.Auto pl.Auto (lI (by exact X5 rfl) (lI (by exact uG rfl) (lI (by exact uG rfl) (LZ)))) (by rfl) (al z.Auto rfl λb11=>(fA sz.Auto rfl rfl rfl rfl rfl (ay rfl) (cells2:=[_,_,_,_,_,_,_]) rfl ?_)))))))
 refine OL.nil (AW.seq (AW.sg hE rfl (aj rfl (fF sl.xC rfl rfl (aj rfl (OL.nil (AW.block ?_)))))));refine AW.rf 61 T.aC 8 rfl (AW.rf 73 T.aC 8 rfl (AW.rf 110 T.mX 11 rfl ?_));refine AW.oZ 11 [.d (dI 1),.d (.sl []),.d (dI a.sym),.d (dI (aV (ah [a])).length),.bI 61 0 0 0,.bI 73 0 0 0,.bI 110 0 0 0] rfl (.cons vR (.cons (bW.mt) (.cons vR (.cons vR (.cons jB (.cons jB (.cons jB .nil))))))) ?_;refine AW.aY (α:=Nat × Nat × Nat × Nat × Nat × Nat × Nat) [(1,_),(2,_),(3,_),(5,_),(7,_),(8,_),(9,_),(11,_),(46,_),(47,_)] [(1,_),(2,_),(5,_),(9,_)] (λ(i,bi,ci,bf,cf,ba,ca)=>[(48,.d (dI i))]) (λ(i,bi,ci,bf,cf,ba,ca)=>[(11,.box b11 T.Auto [.d (dI 1),.d (.sl []),.d (dI a.sym),.d (dI (aV (ah [a])).length),.bI 61 bi i ci,.bI 73 bf i cf,.bI 110 ba (J6 (ah [a]) (aV (ah [a])) i).length ca]),(61,.row bi ci T.aC 8 (((BG (aV (ah [a])).length).take i).map dW)),(73,.row bf cf T.aC 8 ((((aV (ah [a])).map (xA a)).take i).map dW)),(110,.row ba ca T.mX 11 ((J6 (ah [a]) (aV (ah [a])) i).map jG)),(1000,boxS b B y.rs),(1001,P6 B y.rs),(1002,zh B y.rs),(1003,rowP B y.rs)]) (λ(i,bi,ci,bf,cf,ba,ca)=>i<=(aV (ah [a])).length) (λ(i,bi,ci,bf,cf,ba,ca)=>(aV (ah [a])).length-i) (0,0,0,0,0,0,0) (.cons (iw rfl) (.cons (iw rfl) (.cons (di rfl) (.cons (iw rfl) (.cons (iw rfl) (.cons (KF rfl) (.cons (iw rfl) (.cons (iw rfl) (.cons (di rfl) (.cons (di rfl) .nil)))))))))) (.cons (je rfl) (.cons (je rfl) (.cons (je rfl) (.cons (je rfl) .nil)))) ⟨Nat.zero_le _,.dD,.cons rfl (.cons rfl (.cons rfl (.cons rfl (.cons rfl (.cons rfl (.cons rfl (.cons rfl .nil)))))))⟩ ?_
 rintro⟨i,bi,ci,bf,cf,ba,ca⟩ h1
 have h1:i<=(aV (ah [a])).length:=h1;refine AW.sg hE rfl (bG rfl rfl rfl (OL.nil (AW.seq (AW.cond rfl (λh49=>?_) (λh49=>?_)))))
 .try simp only[fD] at h49
  refine AW.skip (AW.seq (AW.block (AW.seq ?_)));have hi:i<(aV (ah [a])).length:=by omega
  have hki:=hk2 _ (getD_mem hi []);have aW1:=hkw _ (getD_mem hi []);refine AW.rg hE rfl (aj rfl (dR sl.xC [] rfl rfl hi rfl rfl (iD ag.EX rfl (vs:=[_,_,_]) rfl (ay rfl) (al z.EX rfl λb13=>(aF rfl (fA sz.EX rfl rfl rfl rfl rfl (ay rfl) (cells2:=[_,_,_]) rfl (OL.nil ?_)))))));refine AW.sg hE rfl (al z.aC rfl λb14=>(OL.nil ?_));refine AW.YC (α:=List V) [(1,_),(2,_),(3,_),(5,_),(7,_),(8,_),(9,_),(11,_),(12,_),(13,_),(14,_),(46,_),(47,_),(48,_)] [(1,_),(2,_),(5,_),(9,_),(11,_),(13,_),(61,_),(73,_),(110,_),(1000,_),(1001,_),(1002,_),(1003,_)] (λcs9=>[]) (λcs9=>[(14,.box b14 T.aC cs9)]) (λcs9=>fK cs9 (cW (if i=0 then 1 else 0))) (.cons (iw rfl) (.cons (iw rfl) (.cons (di rfl) (.cons (iw rfl) (.cons (iw rfl) (.cons (KF rfl) (.cons (iw rfl) (.cons (iw rfl) (.cons (di rfl) (.cons (iw rfl) (.cons (iw rfl) (.cons (di rfl) (.cons (di rfl) (.cons (di rfl) .nil)))))))))))))) (.cons (je rfl) (.cons (je rfl) (.cons (je rfl) (.cons (je rfl) (.cons (je rfl) (.cons (je rfl) (.cons (qZ rfl) (.cons (qZ rfl) (.cons (qZ rfl) (.cons (je rfl) (.cons (qZ rfl) (.cons (qZ rfl) (.cons (qZ rfl) .nil))))))))))))) ?_ ?_
  .refine AW.sg hE rfl (aj rfl (fG rfl rfl rfl (OL.nil (AW.cond rfl (λh0=>?_) (λh0=>?_)))))
   .have h0:i=0:=by have:=lK h0;omega
    refine AW.rg hE rfl (aQ ag.Rat rfl rfl (vs:=[_,_,_]) rfl (ay rfl) (bC fd.iC rfl rfl (fA sz.Rat rfl rfl rfl rfl rfl (ay rfl) (cells2:=[_,_,_,_,_,_,_,_]) rfl (OL.nil ?_))));exact AW.reach _ ⟨(by rw[if_pos h0];exact aV9 (q:=1)),Knows.app .aM1 (.nil),dL.app (.cons rfl (.cons rfl (.cons rfl (.cons rfl (.cons rfl (.cons rfl (.cons rfl (.cons rfl (.cons rfl (.cons rfl (.cons rfl (.cons rfl (.cons rfl .nil))))))))))))) (.cons rfl .nil)⟩
   .have h0:¬ i=0:=by have:=nZ h0;omega
    refine AW.skip ?_;exact AW.reach _ ⟨(by rw[if_neg h0];exact aV8),Knows.app .aM1 (.nil),dL.app (.cons rfl (.cons rfl (.cons rfl (.cons rfl (.cons rfl (.cons rfl (.cons rfl (.cons rfl (.cons rfl (.cons rfl (.cons rfl (.cons rfl (.cons rfl .nil))))))))))))) (.cons rfl .nil)⟩
  intro cs9 hcs;refine AW.oZ 14 (cW (if i=0 then 1 else 0)) rfl hcs (AW.sg hE rfl (bC fd.qW rfl rfl (aG ce.aW rfl rfl rfl (aQ ag.aC rfl rfl (vs:=[_,_,_,_,_,_,_,_]) rfl (ay rfl) (rF (y:=dW (if i=0 then 1 else 0)) sl.aW Nr rfl (by decide) ?_)))))
  refine xZ sl.aW rfl rfl rfl (by rw[dA,List.length_take,xh];omega) (VC.d _) (λy hy=>by rw[jJ hy];rfl) (by simp only[iY];omega) (by simp only[iY];omega) (.inr rfl) (ys:=((BG (aV (ah [a])).length).take (i+1)).map dW) (by rw[show (BG (aV (ah [a])).length).take (i+1)=(BG (aV (ah [a])).length).take i++[if i=0 then 1 else 0] from XG hi,List.map_append];rfl) (n2:=i+1) rfl λb61 c61=>?_
  refine bC fd.qW rfl rfl (fA sz.aW rfl rfl rfl rfl rfl (ay rfl) (cells2:=[_,_,_,_,_,_,_]) rfl (OL.nil (AW.seq (AW.dg 2 [0,1,2,3,4,5,6,7,8,9,10,11,12] ak hE rfl (by kernel_rfl) (OI.aK (os:=[_,_,_,_,_,_,_,_,_,_,_,_,_]) rfl ?_)))))
  refine bC fd.uw rfl rfl (aG ce.aW rfl rfl rfl (bC fd.YM rfl rfl (bC fd.Me rfl rfl (aG ce.bg rfl rfl rfl (bC fd.GN rfl rfl (aG ce.bg rfl rfl rfl ?_))))));refine bH rfl vL (bo9 (u:=bF (ah [a]) ((aV (ah [a])).getD i [])) (v:=(ah [a]).fin) (n:=(ah [a]).n) (jl ok _) ok.fin z6.n6 (jY z6 (by omega)) (λj=>Nat.le_trans (z6.fin j) (by have:=z6.e24;omega))) ?_
  rw[show vX (ah [a]).n (vf (bF (ah [a]) ((aV (ah [a])).getD i []))) (vf (ah [a]).fin)=xA a ((aV (ah [a])).getD i []) from rfl]
  refine bd z.aC pl.aC (cs:=[_,_,_,_,_,_,_,_]) rfl (rF (y:=dW (xA a ((aV (ah [a])).getD i []))) sl.aW a02 rfl (by decide) ?_)
  refine xZ sl.aW rfl rfl rfl (by rw[dA,List.length_take,dA];omega) (VC.d _) (λy hy=>by rw[jJ hy];rfl) (by simp only[iY];omega) (by simp only[iY];omega) (.inr rfl) (ys:=(((aV (ah [a])).map (xA a)).take (i+1)).map dW) (by rw[iL 0 (by rw[dA];exact hi),List.map_append,Qx hi];rfl) (n2:=i+1) rfl λb73 c73=>?_
  refine bC fd.uw rfl rfl (fA sz.aW rfl rfl rfl rfl rfl (ay rfl) (cells2:=[_,_,_,_,_,_,_]) rfl (OL.nil (AW.sg hE rfl (aF rfl (OL.nil (AW.block ?_))))));refine AW.aY (α:=Nat × Nat × Nat) [(1,_),(2,_),(3,_),(5,_),(7,_),(8,_),(9,_),(11,_),(12,_),(13,_),(46,_),(47,_),(48,_)] [(1,_),(2,_),(5,_),(9,_),(13,_),(14,_),(61,_),(73,_)] (λ(s9,Vg,ca2)=>[(15,.d (dI ((s9:Int)+1)))]) (λ(s9,Vg,ca2)=>[(11,.box b11 T.Auto [.d (dI 1),.d (.sl []),.d (dI a.sym),.d (dI (aV (ah [a])).length),.bI 61 b61 (i+1) c61,.bI 73 b73 (i+1) c73,.bI 110 Vg (LD (ah [a]) (aV (ah [a])) i s9).length ca2]),(110,.row Vg ca2 T.mX 11 ((LD (ah [a]) (aV (ah [a])) i s9).map jG)),(1000,boxS b B y.rs),(1001,P6 B y.rs),(1002,zh B y.rs),(1003,rowP B y.rs)]) (λ(s9,Vg,ca2)=>s9<=a.sym) (λ(s9,Vg,ca2)=>a.sym-s9) (0,ba,ca) (.cons (iw rfl) (.cons (iw rfl) (.cons (di rfl) (.cons (iw rfl) (.cons (iw rfl) (.cons (KF rfl) (.cons (iw rfl) (.cons (iw rfl) (.cons (di rfl) (.cons (iw rfl) (.cons (di rfl) (.cons (di rfl) (.cons (di rfl) .nil))))))))))))) (.cons (je rfl) (.cons (je rfl) (.cons (je rfl) (.cons (je rfl) (.cons (je rfl) (.cons (je rfl) (.cons (qZ rfl) (.cons (qZ rfl) .nil)))))))) ⟨Nat.zero_le _,.cons (bW.int (by omega)) .nil,.cons (by rw[He];rfl) (.cons (by rw[He];rfl) (.cons rfl (.cons rfl (.cons rfl (.cons rfl .nil)))))⟩ ?_
  rintro⟨s9,Vg,ca2⟩ h2
  have h2:s9<=a.sym:=h2;refine AW.seq (AW.sg hE rfl (aj rfl (bC fd.lX rfl rfl (aG ce.int rfl rfl rfl (yM rfl rfl rfl (OL.nil (AW.cond rfl (λh78=>?_) (λh78=>?_))))))))
  .try simp only[fD] at h78
   refine AW.skip (AW.seq (AW.block (AW.seq ?_)));have hs9:s9<a.sym:=by omega
   have hnw:iV a.sym (((aV (ah [a])).getD i [])++[((s9+1:Nat):Int)]):=λx hx=>by
    rcases uy hx with hx|hx
    .exact aW1 x hx
    .rw[jJ hx];omega
   have hcl:(ul (ah [a]) (aV (ah [a])) i s9).length=(aV (ah [a])).length:=by rw[TR,<- hrs];exact hfew.1.symm
   refine AW.rg hE rfl (Ym rfl (QU rfl (aQ ag.Machine rfl rfl (vs:=[_,_,_]) rfl (ay rfl) (bC fd.YM rfl rfl (bC fd.Me rfl rfl (aG ce.bg rfl rfl rfl (aj rfl ?_)))))));refine bH rfl vL (aC1 (m:=(ah [a])) (s:=s9) (v:=bF (ah [a]) ((aV (ah [a])).getD i [])) ok fl z6 (jl ok _) (by omega) (jY z6 (by omega))) ?_
   rw[<- Qa];refine bH rfl .iW (UW (m:=(ah [a])) (L:=bL (ah [a])) (u:=((aV (ah [a])).getD i [])++[((s9+1:Nat):Int)]) ok z6 (by omega) (by rw[jd,iY];omega) (λl hl=>Nat.le_trans (hl3 l hl) (by decide))) ?_
   refine aj1 (qY:=[.ptr 1000 b 0,.d (dJ ((aZ (ah [a]) (bL (ah [a]))) (((aV (ah [a])).getD i [])++[((s9+1:Nat):Int)])))]) rfl vL (bs9 (n:=mv.n) (b:=b) (B:=B) (rs:=y.rs) hsp (by rw[hvn];exact fU) (by omega) (λj=>Nat.le_trans (Kr z6 (by rw[jd,iY];omega) hl3 j) (by decide)) (hgf _ hnw)) (λid blk hk=>oh (l:=X7 b B y.rs) (.cons rfl (.cons rfl (.cons rfl (.cons rfl trivial)))) id blk hk) ?_
   rw[show jS y.rs ((aZ (ah [a]) (bL (ah [a]))) (((aV (ah [a])).getD i [])++[((s9+1:Nat):Int)]))=(ul (ah [a]) (aV (ah [a])) i s9) by unfold ul;rw[hrs]]
   refine Di rfl (ex rfl rfl (ex rfl rfl (aF rfl (aF rfl (OL.nil (AW.sg hE rfl (aj rfl ?_)))))));refine fF sl.bg rfl rfl ?_;rw[hcl];refine aj rfl (OL.nil (AW.block ?_));refine AW.aY (α:=Nat × Nat × Nat) [(1,_),(2,_),(3,_),(5,_),(7,_),(8,_),(9,_),(11,_),(12,_),(13,_),(15,_),(46,_),(47,_),(48,_),(94,_),(95,_)] [(1,_),(2,_),(5,_),(9,_),(13,_),(14,_),(61,_),(73,_),(1000,_),(1001,_),(1002,_),(1003,_)] (λ(j,XI,ca3)=>[(96,.d (dI j))]) (λ(j,XI,ca3)=>[(11,.box b11 T.Auto [.d (dI 1),.d (.sl []),.d (dI a.sym),.d (dI (aV (ah [a])).length),.bI 61 b61 (i+1) c61,.bI 73 b73 (i+1) c73,.bI 110 XI (H7 (ah [a]) (aV (ah [a])) i s9 j).length ca3]),(110,.row XI ca3 T.mX 11 ((H7 (ah [a]) (aV (ah [a])) i s9 j).map jG))]) (λ(j,XI,ca3)=>j<=(aV (ah [a])).length) (λ(j,XI,ca3)=>(aV (ah [a])).length-j) (0,Vg,ca2) (.cons (iw rfl) (.cons (iw rfl) (.cons (di rfl) (.cons (iw rfl) (.cons (iw rfl) (.cons (KF rfl) (.cons (iw rfl) (.cons (iw rfl) (.cons (di rfl) (.cons (iw rfl) (.cons (di rfl) (.cons (di rfl) (.cons (di rfl) (.cons (di rfl) (.cons (di rfl) (.cons (di rfl) .nil)))))))))))))))) (.cons (je rfl) (.cons (je rfl) (.cons (je rfl) (.cons (je rfl) (.cons (je rfl) (.cons (je rfl) (.cons (qZ rfl) (.cons (qZ rfl) (.cons (je rfl) (.cons (qZ rfl) (.cons (qZ rfl) (.cons (qZ rfl) .nil)))))))))))) ⟨Nat.zero_le _,.dD,.cons (by rw[G9];rfl) (.cons (by rw[G9];rfl) .nil)⟩ ?_
   rintro⟨j,XI,ca3⟩ h3
   have h3:j<=(aV (ah [a])).length:=h3;have hzl:=XE (m:=(ah [a])) (K:=(aV (ah [a]))) (i:=i) (s:=s9) (j:=j);have hm1:=Nat.mul_le_mul (show (ah [a]).k<=2 by omega) hk3
   have hm2:=Nat.mul_le_mul (show i<=3 by omega) hm1
   have hm3:=Nat.mul_le_mul (show s9<=2 by omega) hk3
   refine AW.sg hE rfl (bG rfl rfl rfl (OL.nil (AW.seq (AW.cond rfl (λh97=>?_) (λh97=>?_)))))
   .try simp only[fD] at h97
    refine AW.skip (AW.seq (AW.block (AW.seq ?_)));have hj:j<(aV (ah [a])).length:=by omega
    refine AW.rg hE rfl (aj rfl (dR sl.bg 0 rfl rfl (by omega) rfl rfl (iD ag.Rat rfl (vs:=[_,_,_]) rfl (ay rfl) (al z.Rat rfl λb19=>(aF rfl (fA sz.Rat rfl rfl rfl rfl rfl (ay rfl) (cells2:=[_,_,_]) rfl (OL.nil ?_)))))))
    refine AW.rg hE rfl (bC fd.gK rfl rfl (aG ce.dm rfl rfl rfl (aj rfl (aj rfl (aj rfl (aQ ag.Rat rfl rfl (vs:=[_,_,_]) rfl (ay rfl) (bd z.aC pl.aC (cs:=[_,_,_,_,_,_,_,_]) rfl ?_)))))));refine L6 (cs:=[_,_,_,_,_,_,_,_,_,_,_]) z.mX pl.mX (lI (by exact uG rfl) (lI (by exact uG rfl) (lI (by exact uG rfl) (lI (by exact X5 rfl) (LZ))))) (by rfl) (rF (y:=jG (Qu (ah [a]) (aV (ah [a])) i s9 j)) sl.dm (ag0 (x:=(Qu (ah [a]) (aV (ah [a])) i s9 j))) rfl (by decide) ?_)
    refine xZ sl.dm rfl rfl rfl (dA ..).symm (VC.d _) (λy hy=>by rw[jJ hy];rfl) (by simp only[iY];omega) (by simp only[iY];omega) (.inr rfl) (ys:=(H7 (ah [a]) (aV (ah [a])) i s9 (j+1)).map jG) (by rw[G8,List.map_append];rfl) (n2:=(H7 (ah [a]) (aV (ah [a])) i s9 (j+1)).length) (by rw[G8,jd];rfl) λbh0 bh2=>?_
    refine bC fd.gK rfl rfl (fA sz.dm rfl rfl rfl rfl rfl (ay rfl) (cells2:=[_,_,_,_,_,_,_]) rfl (OL.nil (AW.rg hE rfl (aI rfl rfl (by omega) (aj rfl (OL.nil ?_))))))
    exact AW.again (x:=(j,XI,ca3)) (j+1,bh0,bh2) (by (simp only[];omega)) ⟨by omega,Knows.app .bl1 .dD,dL.app (.cons rfl (.cons rfl (.cons rfl (.cons rfl (.cons rfl (.cons rfl (.cons rfl (.cons rfl (.cons rfl (.cons rfl (.cons rfl (.cons rfl .nil)))))))))))) (.cons rfl (.cons rfl .nil))⟩
   .try simp only[fD] at h97
    refine AW.exit ?_;obtain rfl:j=(aV (ah [a])).length:=by omega
    refine AW.rg hE rfl (aj rfl (aI rfl rfl (by omega) (aF rfl (OL.nil ?_))))
    exact AW.again (x:=(s9,Vg,ca2)) (s9+1,XI,ca3) (by (simp only[];omega)) ⟨by omega,Knows.app .ba0 (.cons (bW.int (by omega)) .nil),dL.app (.cons rfl (.cons rfl (.cons rfl (.cons rfl (.cons rfl (.cons rfl (.cons rfl (.cons rfl .nil)))))))) (.cons (by rw[<- J7];rfl) (.cons (by rw[<- J7];rfl) (.cons rfl (.cons rfl (.cons rfl (.cons rfl .nil))))))⟩
  .try simp only[fD] at h78
   refine AW.exit ?_;obtain rfl:s9=a.sym:=by omega
   refine AW.rg hE rfl (aI rfl rfl (by omega) (aj rfl (OL.nil ?_)))
   exact AW.again (x:=(i,bi,ci,bf,cf,ba,ca)) (i+1,b61,c61,b73,c73,Vg,ca2) (by (simp only[];omega)) ⟨by omega,Knows.app .Um .dD,dL.app (.cons rfl (.cons rfl (.cons rfl (.cons rfl .nil)))) (.cons (by rw[<- J8,hk];rfl) (.cons rfl (.cons rfl (.cons (by rw[<- J8,hk];rfl) (.cons rfl (.cons rfl (.cons rfl (.cons rfl .nil))))))))⟩
 .try simp only[fD] at h49
  refine AW.exit (AW.seq ?_);obtain rfl:i=(aV (ah [a])).length:=by omega
  have hnl:(vG (ah [a]) (aV (ah [a]))).length<=20:=by
   rw[<- Qv,Kq];have hm1:=Nat.mul_le_mul (show (ah [a]).k<=2 by omega) hk3
   have hm2:=Nat.mul_le_mul hk3 hm1;omega
  have hnc:∀ i s9 j,sz ((ul (ah [a]) (aV (ah [a])) i s9).getD j 0)<=134217728:=λi s9 j=>Qw z6 hl3 hk2 hk3 (by rw[<- hrs];omega) i s9 j
  have hnz:∀ x,x ∈ vG (ah [a]) (aV (ah [a]))->sz x.q<=134217728:=λx hx=>by
   obtain⟨i,hi,s9,hs9,j,hj,rfl⟩:=J9.1 hx;exact hnc i s9 j
  refine AW.freeze 61 rfl (AW.oZ 11 [.d (dI 1),.d (.sl []),.d (dI a.sym),.d (dI (aV (ah [a])).length),.d (qG (BG (aV (ah [a])).length)),.bI 73 bf (aV (ah [a])).length cf,.bI 110 ba (J6 (ah [a]) (aV (ah [a])) (aV (ah [a])).length).length ca] rfl (.cons vR (.cons vR (.cons vR (.cons vR (.cons (dP (by rw[dA,List.length_take,xh];omega) (by rw[List.take_of_length_le (by rw[xh];exact Nat.le_refl _)])) .iW))))) ?_)
  refine AW.freeze 73 rfl (AW.oZ 11 [.d (dI 1),.d (.sl []),.d (dI a.sym),.d (dI (aV (ah [a])).length),.d (qG (BG (aV (ah [a])).length)),.d (qG ((aV (ah [a])).map (xA a))),.bI 110 ba (J6 (ah [a]) (aV (ah [a])) (aV (ah [a])).length).length ca] rfl (.cons vR (.cons vR (.cons vR (.cons vR (.cons vR (.cons (dP (by rw[dA,List.length_take,dA];omega) (by rw[List.take_of_length_le (by rw[dA];exact Nat.le_refl _)])) .dD)))))) ?_)
  refine AW.freeze 110 rfl (AW.oZ 11 [.d (dI 1),.d (.sl []),.d (dI a.sym),.d (dI (aV (ah [a])).length),.d (qG (BG (aV (ah [a])).length)),.d (qG ((aV (ah [a])).map (xA a))),.d (jW (vG (ah [a]) (aV (ah [a]))))] rfl (.cons vR (.cons vR (.cons vR (.cons vR (.cons vR (.cons vR (.cons (dP (dA ..).symm rfl) .nil))))))) ?_);refine AW.rg hE rfl (bC fd.jE rfl rfl (aQ ag.Ring rfl rfl (vs:=[_,_]) rfl (ay rfl) (bC fd.gK rfl rfl (aG ce.dm rfl rfl rfl (bH rfl vL (aB1 (l:=vG (ah [a]) (aV (ah [a]))) hnl hnz) (bC fd.gK rfl rfl (fA sz.dm rfl rfl rfl rfl rfl (ay rfl) (cells2:=[_,_,_,_,_,_,_]) rfl ?_)))))));refine OL.nil (AW.seq (AW.seq ?_));have htl:=Ah (vG (ah [a]) (aV (ah [a])));refine AW.rg hE rfl (bC fd.gK rfl rfl (aG ce.dm rfl rfl rfl (fF sl.dm rfl rfl (jI rfl rfl (c:=false) (decide_eq_false (by show ¬ (2048:Int)<((dK (vG (ah [a]) (aV (ah [a])))).length:Int);omega)) (OL.nil (oH rfl ?_))))))
  refine AW.skip (AW.seq ?_);have hmo:=aW0 (a:=a) (by omega)
  refine AW.rg hE rfl (aQ ag.Auto rfl rfl (vs:=[_,_,_,_,_,_,_]) rfl (ay rfl) ?_);refine bH rfl vL (ad6 (a:=(⟨a.sym,(aV (ah [a])).length,(BG (aV (ah [a])).length),((aV (ah [a])).map (xA a)),dK (vG (ah [a]) (aV (ah [a])))⟩:Au)) hmo (ag1 (by omega) z6 hk2 hnl hnc) (by show a.sym<=32;omega) (by show (aV (ah [a])).length<=64;omega)) ?_
  refine ex rfl rfl (ex rfl rfl (fA sz.Auto rfl rfl rfl rfl rfl (ay rfl) (cells2:=[_,_,_,_,_,_,_]) rfl (aF rfl (OL.nil ?_))));exact AW.ret (aP.r ⟨_,.dN rfl rfl ag.Auto (ay rfl) (.tmp rfl .nil),_,.cons (.ag (.cons (.le vR) (.cons (.le vR) (.cons (.le vR) (.cons (.le vR) (.cons (.le vR) (.cons (.le vR) (.cons (.le vR) .nil)))))))) (.cons (.le vR) .nil),rfl⟩)

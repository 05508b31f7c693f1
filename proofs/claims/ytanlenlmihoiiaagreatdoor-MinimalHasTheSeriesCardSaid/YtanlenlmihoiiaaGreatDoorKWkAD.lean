/-
  Walks of layer 23 of the specification, part 4: rows, ranks, the first word (printed by mk2.py).
-/
import Derived.Test.YtanlenlmihoiiaaGreatDoorKWkAC
set_option maxHeartbeats 1600000
set_option maxRecDepth 8000
set_option linter.unusedVariables false
set_option linter.unusedSimpArgs false
namespace Go.Proofs.YtanlenlmihoiiaaGreatDoor
open Go Go.AL
theorem al5 {m:bQ}{L:List (List Int)}{u:List Int}{i:Nat}(hi:i<L.length):(bG m L u).take (i+1)=(bG m L u).take i++[(bG m L u).getD i 0]:=iV 0 (by rw[jQ];exact hi)
theorem Dj {m:bQ}{B:Nat}{y:BK}(h:iw m B [] y)(n6:m.n<=6):(jw m).length<=6/\(∀ u,u ∈ jw m->u.length<=5)/\∀ u,u ∈ jw m->iy m.k u:=by
 rw[<- h.bas];exact⟨Nat.le_trans h.b.few.2 n6,h.b.five n6,h.uN⟩
theorem aF9 {m:bQ}{L K:List (List Int)}:rX (K.map (bG m L)) (K.map (bG m L)).length=spR m L K:=by
 unfold rX spR;rw[List.take_length,List.foldl_map]
theorem KY {m:bQ}{e:Nat}{L:List (List Int)}{u:List Int}(z6:m.Sz e)(hu:u.length<=5)(hL:∀ l,l ∈ L->l.length<=5)(j:Nat):sz ((bG m L u).getD j 0)<=16777215:=Nat.le_trans (aQ3 z6 hu hL j) (by decide)
structure Au.Rk (a:Au) (s:Nat):Prop where
 take:Au.Take a s
 wt:Au.Wt a
 s4:s<=4
 rz:(wS a).Sz 134217728 20
 fa:a.Fw
 ff:(qR a).Fw
 fr:(qR (wS a)).Fw
theorem Au.Rk.bF0 {a:Au}{s:Nat}(k:Au.Rk a s):∃ y,iw (aU (ah [a])) 16777215 [] y/\y.ks=jw (aU (ah [a])):=by
 have h:=k.fr.inv
 rwa [(Gz (wS a)).EK,RF] at h
theorem KZ {k:Nat}:∀ K:List (List Int),(iE k K).length=1+K.length*k
 | []=>by show 1=1+0*k;omega
 | w::K=>by
  have h:=KZ (k:=k) K;unfold iE at h ⊢;rw[List.length_cons] at h ⊢;rw[List.flatMap_cons,jd,zo,List.length_cons,Nat.succ_mul];omega
theorem WY {k n:Nat}{K:List (List Int)}(h1:∀ u,u ∈ K->u.length<=n)(h2:∀ u,u ∈ K->iy k u):∀ w,w ∈ iE k K->w.length<=n+1/\iy k w:=λw hw=>by
 rcases List.mem_cons.1 hw with rfl|hw
 .exact⟨Nat.zero_le _,λx hx=>by cases hx⟩
 .obtain⟨z,hz,hw⟩:=List.mem_flatMap.1 hw;refine⟨?_,WG (h2 z hz) w hw⟩;obtain⟨s,_,rfl⟩:=jH hw;rw[jd];have:=h1 z hz;simp only[kC];omega
theorem aV2 {v u:List Rat}{n:Nat}(zv:∀ i,sz (v.getD i 0)<=16777215)(zu:∀ i,sz (u.getD i 0)<=16777215)(hn:n<=64):sz (He v u n)<=2147483648:=by
 have h:sz (He v u n)<=1+n*(33554430+1):=Jp n λj _=>by
  have:=jS (v.getD j 0) (u.getD j 0);have:=zv j;have:=zu j;omega
 have:=Nat.mul_le_mul_right (33554430+1) hn;omega
theorem bg3 {a:Au}{w:List Int}{L:List (List Int)}{s:Nat}(k:Au.Rk a s)(hw:iy a.sym w)(hl:w.length<=6)(nl:L.length<=6)(hL:∀ l,l ∈ L->l.length<=6):ai P F.Gi [uY a,.d (.sl ((xk (aU (ah [a])) L).map gm)),.d (ints w)] (.d (gm (bG (ah [a]) L w))):=by
 obtain⟨ok,fl,z6,hn⟩:=k.fa.Uf;have n6:=z6.n6;have hvl:(bG (ah [a]) L w).length=L.length:=jQ;have hll:=WV (m:=(aU (ah [a]))) (L:=L);refine ai.intro fn.Gi (by rfl) (by rfl) (au (by rfl)) λE hE=>(AW.sg hE rfl (iG rfl rfl λb3=>(nI rfl (OL.nil (AW.sg hE rfl (aQ ag.Auto rfl rfl (vs:=[_,_,_,_,_,_,_]) rfl (au rfl) (bP rfl vL (Ir (a:=a) k.take.fit.ok k.take.fit.sz k.take.fit.st) ?_)))))))
 refine aj rfl (bP rfl vL (Iw (a:=qR a) (w:=w) k.ff hw hl) ?_);rw[aC1 k.take.fit.ok hw,Ey k.take.fit.ok hw];refine aG rfl (OL.nil (AW.sg hE rfl (nI rfl (OL.nil (AW.seq (AW.seq (AW.own 8 28 T.Rat 3 rfl rfl ?_)))))));refine AW.rg hE rfl (aG rfl (OL.nil (AW.block ?_)));refine AW.aX (α:=Nat × Nat × Nat) [(1,_),(6,_),(7,_)] [] (λ(i,bq,cq)=>[(8,.bK 28 bq i cq),(9,.d (dI i))]) (λ(i,bq,cq)=>[(28,.row bq cq T.Rat 3 (((bG (ah [a]) L w).take i).map dQ))]) (λ(i,bq,cq)=>i<=L.length) (λ(i,bq,cq)=>L.length-i) (0,0,0) (.cons (dA rfl) (.cons (BO rfl) (.cons (dA rfl) .nil))) .nil ⟨Nat.zero_le _,.jm,.cons rfl .nil⟩ ?_
 rintro⟨i,bq,cq⟩ h1
 have h1:i<=L.length:=h1;refine AW.seq (AW.sg hE rfl (aj rfl (aj rfl (fO sl.dm rfl rfl (bD rfl rfl rfl (OL.nil (AW.cond rfl (λh17=>?_) (λh17=>?_))))))))
 .try simp only[fG] at h17
  refine AW.skip (AW.seq (AW.block ?_));have hi:i<L.length:=by omega
  refine AW.rg hE rfl (jl rfl (aj rfl (aj rfl (aj rfl (fD sl.dm [] rfl rfl (by omega) rfl rfl (jb ce.bF rfl ?_))))))
  rw[aF5 hi];refine bP rfl vL (aF0 (v:=aZ (ah [a]) w) (u:=aZ (aU (ah [a])) (L.getD i [])) (n:=(ah [a]).n) (lu ok w) (lu (qC ok) _) (by omega) (λj=>Nat.le_trans (mV z6 hl j) (by decide)) (λj=>Nat.le_trans (mV z6.turn (hL _ (getD_mem hi [])) j) (by decide))) ?_
  rw[<- aC2 hi];refine xG (y:=dQ ((bG (ah [a]) L w).getD i 0)) sl.bF EN rfl (by decide) ?_
  refine Am sl.bF rfl rfl rfl (by rw[dL,List.length_take];omega) (VC.d _) (λy hy=>by rw[lV hy];rfl) (by simp only[kC];omega) (by simp only[kC];omega) (.inr rfl) (ys:=((bG (ah [a]) L w).take (i+1)).map dQ) (by rw[al5 hi,List.map_append];rfl) (n2:=i+1) rfl λb28 c28=>?_
  exact uf rfl (OL.nil (AW.rg hE rfl (aj rfl (aJ rfl rfl (by omega) (aG rfl (OL.nil (AW.again (x:=(i,bq,cq)) (i+1,b28,c28) (by (simp only[];omega)) ⟨by omega,Knows.app .yI .jm,.cons rfl .nil⟩)))))))
 .try simp only[fG] at h17
  refine AW.exit (AW.seq ?_);obtain rfl:i=L.length:=by omega
  exact AW.rg hE rfl (jl rfl (uf rfl (OL.nil (AW.ret (aT.r ⟨_,.tmp rfl .nil,RO.all rfl rfl (by rw[dL,List.length_take];omega) (by rw[List.take_of_length_le (by omega)])⟩)))))
theorem aV3 {a:Au}{s:Nat}(k:Au.Rk a s):ai P F.DI [uY a] (.oM [.d (dI (VL a)),.d (dI 0)]):=by
 obtain⟨ok,fl,z6,hn⟩:=k.fa.Uf;have n6:=z6.n6;obtain⟨y1,hI1,e1⟩:=k.fa.inv;obtain⟨y2,hI2,e2⟩:=k.bF0;obtain⟨hk6,hk5,hkw⟩:=Dj hI1 n6;obtain⟨hl6,hl5,_⟩:=Dj hI2 n6;have hkk:(ah [a]).k=a.sym:=tY;have hzv:∀ u,u ∈ y1.ks->∀ j,sz ((bG (ah [a]) y2.ks u).getD j 0)<=16777215:=λu hu j=>KY z6 (hk5 u (e1 ▸ hu)) (λl hl=>hl5 l (e2 ▸ hl)) j;have aG0:=ak2 k.fa (by decide) hzv hI1 hI2
 rw[e1,e2] at aG0;rw[e1,e2] at hzv;have hvl:=WV (m:=(aU (ah [a]))) (L:=jw (aU (ah [a])));generalize hKe:jw (ah [a])=K at hk6 hk5 hkw aG0 hzv;generalize hLe:jw (aU (ah [a]))=L at hl6 hl5 aG0 hzv hvl;refine ai.intro fn.DI (by rfl) (by rfl) (au (by rfl)) λE hE=>(AW.sg hE rfl (iG rfl rfl λb1=>(aG rfl (aG rfl (OL.nil (AW.seq (AW.sg hE rfl ?_)))))))
 refine aQ ag.Auto rfl rfl (vs:=[_,_,_,_,_,_,_]) rfl (au rfl) (bP rfl vL (aF7 k.take.fit k.wt) (aG rfl (OL.nil (AW.sg hE rfl (aj rfl (fJ rfl rfl (c:=false) (by exact o6 (by omega)) (OL.nil ?_)))))))
 refine pW rfl ?_;refine AW.skip (AW.sg hE rfl (aQ ag.Auto rfl rfl (vs:=[_,_,_,_,_,_,_]) rfl (au rfl) (bP rfl vL (WX (a:=a) k.take.fit.ok k.take.fit.sz k.take.fit.st k.ff) ?_)));rw[hKe];refine ES rfl (ex rfl rfl (ex rfl rfl (aG rfl (aG rfl (OL.nil (AW.sg hE rfl (aQ ag.Auto rfl rfl (vs:=[_,_,_,_,_,_,_]) rfl (au rfl) ?_)))))));refine bP rfl vL (aV1 k.take.fit k.rz k.fr) ?_;rw[hLe];refine aG rfl (OL.nil (AW.sg hE rfl (nI rfl (OL.nil (AW.seq (AW.seq (AW.own 8 44 T.bF 1 rfl rfl ?_)))))));refine AW.rg hE rfl (aG rfl (OL.nil (AW.block ?_)));refine AW.aX (α:=Nat × Nat × Nat) [(1,_),(2,_),(3,_),(5,_),(7,_)] [(1,_)] (λ(i,bq,cq)=>[(8,.bK 44 bq i cq),(9,.d (dI i))]) (λ(i,bq,cq)=>[(44,.row bq cq T.bF 1 (((K.take i).map (bG (ah [a]) L)).map gm))]) (λ(i,bq,cq)=>i<=K.length/\(L.length=0->i=0)) (λ(i,bq,cq)=>K.length-i) (0,0,0) (.cons (iF rfl) (.cons (dA rfl) (.cons (dA rfl) (.cons (dA rfl) (.cons (dA rfl) .nil))))) (.cons (jc rfl) .nil) ⟨⟨Nat.zero_le _,λ_=>rfl⟩,.jm,.cons rfl .nil⟩ ?_
 rintro⟨i,bq,cq⟩ ⟨h1,h2⟩
 have h1:i<=K.length:=h1;have h2:L.length=0->i=0:=h2;refine AW.seq (AW.sg hE rfl (aj rfl (aj rfl (fO sl.tK rfl rfl (bD rfl rfl rfl (OL.split 27 rfl (λha=>?_) (λha=>?_)))))))
 .have ha:i<K.length:=by have:=mX ha;omega
  refine aj rfl (OL.yes rfl (aj rfl (OL.yes rfl (fO sl.dm rfl rfl (OL.yes rfl (kS rfl rfl rfl (OL.split 31 rfl (λhb=>?_) (λhb=>?_))))))))
  .have hb:0<L.length:=by have:=mX hb;omega
   refine nJ rfl rfl (OL.nil (F6 rfl ?_));refine AW.skip (AW.seq (AW.block ?_));have hku:=getD_mem ha [];have hkv:=hkw _ hku;rw[hkk] at hkv;refine AW.dg 2 [0,1,2,3,4,5,6,7,8,9,10] ak hE rfl (by kernel_rfl) (OI.aP (os:=[_,_,_,_,_,_,_,_,_,_,_]) rfl ?_)
   refine jl rfl (aQ ag.Auto rfl rfl (vs:=[_,_,_,_,_,_,_]) rfl (au rfl) (aj rfl (aj rfl (aj rfl (fD sl.tK [] rfl rfl (by omega) rfl rfl (jb ce.ints rfl (bP rfl vL (bg3 (w:=(K.getD i [])) (L:=L) k hkv (Nat.le_succ_of_le (hk5 _ hku)) hl6 (λl hl=>Nat.le_succ_of_le (hl5 l hl))) ?_)))))))
   refine xG (y:=gm (bG (ah [a]) L (K.getD i []))) sl.dm (VC.d _).vd rfl (by decide) ?_
   refine Am sl.dm rfl rfl rfl (by rw[dL,dL,List.length_take];omega) (VC.d _) (λy hy=>by rw[lV hy];rfl) (by simp only[kC];omega) (by simp only[kC];omega) (.inr rfl) (ys:=((K.take (i+1)).map (bG (ah [a]) L)).map gm) (by rw[iV [] ha,List.map_append,List.map_append];rfl) (n2:=i+1) rfl λb44 c44=>?_
   refine uf rfl (OL.nil (AW.rg hE rfl (aj rfl (aJ rfl rfl (by omega) (aG rfl (OL.nil ?_))))))
   exact AW.again (x:=(i,bq,cq)) (i+1,b44,c44) (by (simp only[];omega)) ⟨⟨by omega,λh=>by omega⟩,Knows.app .I7 .jm,dP.app (.cons rfl .nil) (.cons rfl .nil)⟩
  .have hb:¬ 0<L.length:=by have:=oN hb;omega
   have hrk:(rX ((K.take i).map (bG (ah [a]) L)) ((K.take i).map (bG (ah [a]) L)).length).length=VL a:=by
    obtain rfl:L=[]:=EQ (by omega)
    rw[h2 rfl,<- aG0,aS8];rfl
   refine nJ rfl rfl (OL.nil (pW rfl ?_));refine AW.exit (AW.seq ?_);have hvi:((K.take i).map (bG (ah [a]) L)).length=i:=by rw[dL,List.length_take];omega
   refine AW.freeze 44 rfl (AW.to [(8,.d (.sl (((K.take i).map (bG (ah [a]) L)).map gm)))] [] (.cons (dM (by rw[dL,hvi]) rfl) .nil) .nil ?_)
   refine AW.rg hE rfl (aj rfl ?_);refine bP rfl vL (RY (vs:=((K.take i).map (bG (ah [a]) L))) (n:=max 1 L.length) (by omega) (by omega) (λv hv=>by obtain⟨u,hu,rfl⟩:=jH hv;rw[jQ];have:0<i:=(Nat.eq_zero_or_pos i).elim (λh=>by rw[h] at hu;cases hu) id;have:L.length≠0:=(λh=>by have:=h2 h;omega);omega) (λv hv=>by obtain⟨u,hu,rfl⟩:=jH hv;exact hzv u (List.mem_of_mem_take hu))) ?_
   refine ES rfl (ex rfl rfl (ex rfl rfl (aG rfl (aG rfl (OL.nil (AW.seq ?_))))));have hx9:(Hf ((K.take i).map (bG (ah [a]) L)) ((K.take i).map (bG (ah [a]) L)).length).length=VL a:=by rw[FW (Nat.le_refl _),hrk]
   refine AW.rg hE rfl (aj rfl (fO sl.ints rfl rfl ?_));rw[hx9];exact aG rfl (aG rfl (OL.nil (AW.ret (aT.r ⟨_,.tmp rfl (.tmp rfl .nil),_,.cons (.le vR) (.cons (.le vR) .nil),rfl⟩))))
 .have ha:¬ i<K.length:=by have:=oN ha;omega
  have hrk:(rX ((K.take i).map (bG (ah [a]) L)) ((K.take i).map (bG (ah [a]) L)).length).length=VL a:=by
   rw[show K.take i=K from List.take_of_length_le (by omega),aF9];exact aG0
  refine aj rfl (OL.nd rfl (OL.nd rfl (OL.nd rfl (oI rfl rfl (OL.nil (pW rfl ?_))))));refine AW.exit (AW.seq ?_);have hvi:((K.take i).map (bG (ah [a]) L)).length=i:=by rw[dL,List.length_take];omega
  refine AW.freeze 44 rfl (AW.to [(8,.d (.sl (((K.take i).map (bG (ah [a]) L)).map gm)))] [] (.cons (dM (by rw[dL,hvi]) rfl) .nil) .nil ?_)
  refine AW.rg hE rfl (aj rfl ?_);refine bP rfl vL (RY (vs:=((K.take i).map (bG (ah [a]) L))) (n:=max 1 L.length) (by omega) (by omega) (λv hv=>by obtain⟨u,hu,rfl⟩:=jH hv;rw[jQ];have:0<i:=(Nat.eq_zero_or_pos i).elim (λh=>by rw[h] at hu;cases hu) id;have:L.length≠0:=(λh=>by have:=h2 h;omega);omega) (λv hv=>by obtain⟨u,hu,rfl⟩:=jH hv;exact hzv u (List.mem_of_mem_take hu))) ?_
  refine ES rfl (ex rfl rfl (ex rfl rfl (aG rfl (aG rfl (OL.nil (AW.seq ?_))))));have hx9:(Hf ((K.take i).map (bG (ah [a]) L)) ((K.take i).map (bG (ah [a]) L)).length).length=VL a:=by rw[FW (Nat.le_refl _),hrk]
  refine AW.rg hE rfl (aj rfl (fO sl.ints rfl rfl ?_));rw[hx9];exact aG rfl (aG rfl (OL.nil (AW.ret (aT.r ⟨_,.tmp rfl (.tmp rfl .nil),_,.cons (.le vR) (.cons (.le vR) .nil),rfl⟩))))
theorem aV4 {a:Au}(f:a.Fw):ai P F.DR [uY a] (.oM [.d (dB (zeA a).isNone),.d (ints ((zeA a).getD []))]):=by
 obtain⟨ok,fl,z6,hn⟩:=f.Uf;have n6:=z6.n6;have hst:=f.few.st;have hst1:=f.st1;have s4:=f.s4;obtain⟨y1,hI1,e1⟩:=f.inv;obtain⟨hk6,hk5,hkw⟩:=Dj hI1 n6;have hkk:(ah [a]).k=a.sym:=tY;rw[hkk] at hkw;have hnn:∀ {i:Nat},i<(iE a.sym (jw (ah [a]))).length->kU (ah [a]) ((iE a.sym (jw (ah [a]))).getD i [])≠0->(∀ l,l<i->kU (ah [a]) ((iE a.sym (jw (ah [a]))).getD l [])=0)->zeA a=some ((iE a.sym (jw (ah [a]))).getD i []):=λhi h0 hb=>by
  have h:=Wy ok hI1 (i:=_) (by rw[hkk,e1];exact hi) (by rw[hkk,e1];exact h0) (by rw[hkk,e1];exact hb)
  rw[hkk,e1] at h;exact h
 have hnz:(∀ w,w ∈ iE a.sym (jw (ah [a]))->kU (ah [a]) w=0)->zeA a=none:=λh=>Yx ok hI1 (by rw[hkk,e1];exact h)
 generalize hKe:jw (ah [a])=K at hk6 hk5 hkw hnn hnz;have hnf:=WY (k:=a.sym) hk5 hkw;have hnl:=KZ (k:=a.sym) K;have hnm:=Nat.mul_le_mul hk6 s4;refine ai.intro fn.DR (by rfl) (by rfl) (au (by rfl)) λE hE=>(AW.sg hE rfl (iG rfl rfl λb1=>(aG rfl (nI rfl (OL.nil (AW.seq (AW.sg hE rfl ?_)))))))
 refine aV fd.jf rfl rfl (aA ce.int rfl rfl rfl (fE rfl rfl (c:=false) (by exact decide_eq_false (by omega)) (OL.nil (pW rfl ?_))))
 refine AW.skip (AW.sg hE rfl (aQ ag.Auto rfl rfl (vs:=[_,_,_,_,_,_,_]) rfl (au rfl) (bP rfl vL (WW f) ?_)));rw[hKe];refine ES rfl (ex rfl rfl (ex rfl rfl (aG rfl (aG rfl (OL.nil (AW.sg hE rfl (ba7 (y:=ints []) sl.tK VC.mt.vd rfl (by decide) rfl λb18=>?_)))))))
 refine uf rfl (OL.nil (AW.seq (AW.sg hE rfl (aG rfl (OL.nil (AW.block (AW.rename 18 40 rfl ?_)))))));refine AW.aX (α:=Nat × Nat × Nat) [(1,_),(2,_),(3,_),(4,_)] [(1,_)] (λ(i,bq,cq)=>[(6,.bK 40 bq (iE a.sym (K.take i)).length cq),(7,.d (dI i))]) (λ(i,bq,cq)=>[(40,.row bq cq T.ints 1 ((iE a.sym (K.take i)).map ints))]) (λ(i,bq,cq)=>i<=K.length) (λ(i,bq,cq)=>K.length-i) (0,b18,1) (.cons (iF rfl) (.cons (dA rfl) (.cons (BO rfl) (.cons (dA rfl) .nil)))) (.cons (jc rfl) .nil) ⟨Nat.zero_le _,.cons bV.bK .dw,.cons rfl .nil⟩ ?_
 rintro⟨i,bq,cq⟩ h1
 have h1:i<=K.length:=h1;have hwl:=KZ (k:=a.sym) (K.take i);have hwm:=Nat.mul_le_mul (show (K.take i).length<=6 by rw[List.length_take];omega) s4
 refine AW.seq (AW.sg hE rfl (aj rfl (aj rfl (fO sl.tK rfl rfl (bD rfl rfl rfl (OL.nil (AW.cond rfl (λh22=>?_) (λh22=>?_))))))))
 .try simp only[fG] at h22
  refine AW.skip (AW.seq (AW.block (AW.sg hE rfl (aG rfl (OL.nil (AW.block ?_))))));refine AW.aX (α:=Nat × Nat × Nat) [(1,_),(2,_),(3,_),(4,_),(7,_)] [(1,_)] (λ(s,bp,cp)=>[(6,.bK 40 bp ((iE a.sym (K.take i))++dD s (K.getD i [])).length cp),(8,.d (dI ((s:Int)+1)))]) (λ(s,bp,cp)=>[(40,.row bp cp T.ints 1 (((iE a.sym (K.take i))++dD s (K.getD i [])).map ints))]) (λ(s,bp,cp)=>s<=a.sym) (λ(s,bp,cp)=>a.sym-s) (0,bq,cq) (.cons (iF rfl) (.cons (dA rfl) (.cons (BO rfl) (.cons (dA rfl) (.cons (dA rfl) .nil))))) (.cons (jc rfl) .nil) ⟨Nat.zero_le _,.cons (by rw[show dD 0 (K.getD i [])=[] from rfl,List.append_nil];exact bV.refl _) (.cons (bV.int (by omega)) .nil),.cons (by rw[show dD 0 (K.getD i [])=[] from rfl,List.append_nil];rfl) .nil⟩ ?_
  rintro⟨s,bp,cp⟩ h2
  have h2:s<=a.sym:=h2;have hkn:=zo s (K.getD i []);have hla:((iE a.sym (K.take i))++dD s (K.getD i [])).length=(iE a.sym (K.take i)).length+s:=by rw[jd,hkn]
  refine AW.seq (AW.sg hE rfl (aj rfl (aV fd.kZ rfl rfl (aA ce.int rfl rfl rfl (Aw rfl rfl rfl (OL.nil (AW.cond rfl (λh28=>?_) (λh28=>?_))))))))
  .try simp only[fG] at h28
   refine AW.skip (AW.seq (AW.block ?_));have bP7:=hk5 _ (getD_mem (show i<K.length by omega) [])
   refine AW.rg hE rfl (jl rfl (aj rfl (aj rfl (fD sl.tK [] rfl rfl (by omega) rfl rfl (jb ce.ints rfl (aj rfl (xG (y:=dI ((s:Int)+1)) sl.ints (VC.d _).vd rfl (by decide) ?_)))))))
   refine bP rfl vL (aF6 (w:=(K.getD i [])) (u:=[(s:Int)+1]) (by omega) (au rfl)) (xG (y:=ints ((K.getD i [])++[(s:Int)+1])) sl.tK (VC.d _).vd rfl (by decide) ?_)
   refine Am sl.tK rfl rfl rfl (dL ..).symm (VC.d _) (λy hy=>by rw[lV hy];rfl) (by simp only[kC];omega) (by simp only[kC];omega) (.inr rfl) (ys:=((iE a.sym (K.take i))++dD (s+1) (K.getD i [])).map ints) (by rw[xA,<- List.append_assoc];exact (List.map_append (f:=ints) (l₁:=(iE a.sym (K.take i))++dD s (K.getD i [])) (l₂:=[((K.getD i [])++[(s:Int)+1])])).symm) (n2:=((iE a.sym (K.take i))++dD (s+1) (K.getD i [])).length) (by rw[xA,<- List.append_assoc];simp only[jd,kC]) λb40 c40=>?_
   refine uf rfl (OL.nil (AW.rg hE rfl (aj rfl (aJ rfl rfl (by omega) (aG rfl (OL.nil ?_))))))
   exact AW.again (x:=(s,bp,cp)) (s+1,b40,c40) (by (simp only[];omega)) ⟨by omega,Knows.app .I7 (.cons vR (.cons (bV.int (by omega)) .nil)),dP.app (.cons rfl .nil) (.cons rfl .nil)⟩
  .try simp only[fG] at h28
   refine AW.exit ?_;obtain rfl:s=a.sym:=by omega
   refine AW.rg hE rfl (aj rfl (aJ rfl rfl (by omega) (aG rfl (OL.nil ?_))))
   exact AW.again (x:=(i,bq,cq)) (i+1,bp,cp) (by (simp only[];omega)) ⟨by omega,Knows.app .J5 (.cons (by rw[iV [] (by omega),Iq];exact bV.refl _) .dw),dP.app (.cons rfl .nil) (.cons (by rw[iV [] (by omega),Iq];rfl) .nil)⟩
 .try simp only[fG] at h22
  refine AW.exit (AW.seq (AW.seq ?_));obtain rfl:i=K.length:=by omega
  dsimp only
  rw[List.take_length];refine AW.rg hE rfl (aG rfl (OL.nil (AW.block ?_)));refine AW.aX (α:=Nat) [(1,_),(6,_)] [(1,_),(40,_)] (λi=>[(9,.d (dI i))]) (λi=>[]) (λi=>i<=(iE a.sym K).length/\∀ l,l<i->kU (ah [a]) ((iE a.sym K).getD l [])=0) (λi=>(iE a.sym K).length-i) 0 (.cons (iF rfl) (.cons (BH rfl) .nil)) (.cons (jc rfl) (.cons (tJ rfl) .nil)) ⟨⟨Nat.zero_le _,λl hl=>by omega⟩,.dw,.nil⟩ ?_
  rintro i ⟨h3,h4⟩
  have h3:i<=(iE a.sym K).length:=h3;have h4:∀ l,l<i->kU (ah [a]) ((iE a.sym K).getD l [])=0:=h4;refine AW.seq (AW.sg hE rfl (aj rfl (jl rfl (Qx sl.tK rfl rfl (bD rfl rfl rfl (OL.nil (AW.cond rfl (λh44=>?_) (λh44=>?_))))))))
  .try simp only[fG] at h44
   refine AW.skip (AW.seq (AW.block (AW.seq ?_)));have hi:i<(iE a.sym K).length:=by omega
   obtain⟨hq6,hqw⟩:=hnf _ (getD_mem hi []);have bt4:He (ve a ((iE a.sym K).getD i [])) a.fin a.st=kU (ah [a]) ((iE a.sym K).getD i []):=Wv f.ok hqw;refine AW.dg 1 [0,1,2,3,4,5,6,7,8,9,10,11] ak hE rfl (by kernel_rfl) (OI.aP (os:=[_,_,_,_,_,_,_,_,_,_,_,_]) rfl ?_)
   refine aQ ag.Auto rfl rfl (vs:=[_,_,_,_,_,_,_]) rfl (au rfl) (jl rfl (aj rfl (je sl.tK rfl rfl hi (Tj ce.ints [] (by decide) rfl rfl hi rfl (bP rfl vL (Iw (w:=((iE a.sym K).getD i [])) f hqw hq6) (aV fd.o8 rfl rfl (aA ce.aS rfl rfl rfl ?_)))))))
   refine bP rfl vL (Px (l:=a.fin) (by have:=f.ok.fin;omega)) ?_
   refine bP rfl vL (aF0 (v:=ve a ((iE a.sym K).getD i [])) (u:=a.fin) (n:=a.st) (JI f.ok _) f.ok.fin (by omega) (YV f hqw hq6) (λj=>Nat.le_trans (GH f.few.fin (by decide) j) (by decide))) ?_
   rw[bt4];refine bP rfl vL (Gq (x:=kU (ah [a]) ((iE a.sym K).getD i [])) (by rw[<- bt4];exact Nat.le_trans (aV2 (YV f hqw hq6) (λj=>Nat.le_trans (GH f.few.fin (by decide) j) (by decide)) (show a.st<=64 by omega)) (by decide))) ?_
   refine fJ rfl rfl rfl (OL.nil (AW.cond rfl (λhd=>?_) (λhd=>?_)))
   .have hd:kU (ah [a]) ((iE a.sym K).getD i [])≠0:=λe=>zH hd (qg.2 e);have hz9:=hnn hi hd h4;refine AW.seq (AW.dg 1 [0,1,2,3,4,5] ak hE rfl (by kernel_rfl) (OI.aP (os:=[_,_,_,_,_,_]) rfl ?_))
    exact jl rfl (aj rfl (je sl.tK rfl rfl hi (Tj ce.ints [] (by decide) rfl rfl hi rfl (aG rfl (aG rfl (OL.nil (AW.ret (aT.r ⟨_,.tmp rfl (.tmp rfl .nil),_,.cons (.le (by rw[hz9];exact bV.refl _)) (.cons (.le (by rw[hz9];exact bV.refl _)) .nil),rfl⟩))))))))
   .have hd:kU (ah [a]) ((iE a.sym K).getD i [])=0:=qg.1 (yc hd);refine AW.skip (AW.rg hE rfl (aj rfl (aJ rfl rfl (by omega) (aG rfl (OL.nil ?_)))))
    exact AW.again (x:=i) (i+1) (by omega) ⟨⟨by omega,λl hl=>(Nat.lt_or_ge l i).elim (λh=>h4 l h) λh=>by obtain rfl:l=i:=(by omega);exact hd⟩,Knows.app .jm .dw,dP.app (.cons rfl (.cons rfl .nil)) (.nil)⟩
  .try simp only[fG] at h44
   refine AW.exit (AW.seq ?_);have hz9:zeA a=none:=hnz λw hw=>by
    obtain⟨l,hl,rfl⟩:=List.mem_iff_getElem.1 hw;have h:=h4 l (by omega)
    rwa [iO,lF hl] at h
   exact AW.rg hE rfl (aG rfl (nI rfl (OL.nil (AW.ret (aT.r ⟨_,.tmp rfl (.tmp rfl .nil),_,.cons (.le (by rw[hz9];exact bV.refl _)) (.cons (.le (by rw[hz9];exact bV.mt)) .nil),rfl⟩)))))

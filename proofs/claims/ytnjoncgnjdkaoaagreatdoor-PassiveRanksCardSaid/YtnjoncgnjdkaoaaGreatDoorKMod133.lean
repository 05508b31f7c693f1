/-
  M, chapter 30: the laws of samples, in plain numbers.
-/
import Derived.Test.YtnjoncgnjdkaoaaGreatDoorKWkAC
set_option maxHeartbeats 1600000
set_option linter.unusedVariables false
set_option linter.unusedSimpArgs false
namespace Go.Proofs.YtnjoncgnjdkaoaaGreatDoor
open Go Go.AL
theorem ZU {m:dZ}{L:List (List Int)}{u:List Int}{i:Nat}(hi:i<L.length):(dJ m L u).take (i+1)=(dJ m L u).take i++[(dJ m L u).getD i 0]:=oW 0 (by rw[sK];exact hi)
theorem Qr {m:dZ}{B:Nat}{y:MZ}(h:kH m B [] y)(n6:m.n<=6):(y9 m).length<=6/\(∀ u,u ∈ y9 m->u.length<=5)/\∀ u,u ∈ y9 m->iV m.k u:=by
 rw[<- h.bas];exact⟨Nat.le_trans h.b.few.2 n6,h.b.five n6,h.xB⟩
theorem aq8 {m:dZ}{L K:List (List Int)}:qJ (K.map (dJ m L)) (K.map (dJ m L)).length=spR m L K:=by
 unfold qJ spR;rw[List.take_length,List.foldl_map]
theorem ZV {m:dZ}{e:Nat}{L:List (List Int)}{u:List Int}(z6:m.Sz e)(hu:u.length<=5)(hL:∀ l,l ∈ L->l.length<=5)(j:Nat):sz ((dJ m L u).getD j 0)<=16777215:=Nat.le_trans (aA4 z6 hu hL j) (by decide)
structure Au.Rk (a:Au) (s:Nat):Prop where
 take:Au.Take a s
 wt:Au.Wt a
 s4:s<=4
 rz:(sJ a).Sz 134217728 20
 fa:a.Fw
 ff:(rQ a).Fw
 fr:(rQ (sJ a)).Fw
theorem Au.Rk.bj9 {a:Au}{s:Nat}(k:Au.Rk a s):∃ y,kH (bI (aY [a])) 16777215 [] y/\y.ks=y9 (bI (aY [a])):=by
 have h:=k.fr.inv
 rwa [(IW (sJ a)).Ue,PX] at h
theorem aR5 {a:Au}{w:List Int}{L:List (List Int)}{s:Nat}(k:Au.Rk a s)(hw:iV a.sym w)(hl:w.length<=6)(nl:L.length<=6)(hL:∀ l,l ∈ L->l.length<=6):aj P F.EK [zG a,.d (.sl ((vV (bI (aY [a])) L).map iG)),.d (ints w)] (.d (iG (dJ (aY [a]) L w))):=by
 obtain⟨ok,fl,z6,hn⟩:=k.fa.Uy;have n6:=z6.n6;have hvl:(dJ (aY [a]) L w).length=L.length:=sK;have hll:=Va (m:=(bI (aY [a]))) (L:=L);refine aj.intro fn.EK (by rfl) (by rfl) (aA (by rfl)) λE hE=>(AW.sg hE rfl (gW rfl rfl λb3=>(jg rfl (OL.nil (AW.sg hE rfl (aN ag.Auto rfl rfl (vs:=[_,_,_,_,_,_,_]) rfl (aA rfl) (bF rfl vL (NR (a:=a) k.take.fit.ok k.take.fit.sz k.take.fit.st) ?_)))))))
 refine ai rfl (bF rfl vL (NV (a:=rQ a) (w:=w) k.ff hw hl) ?_);rw[ak4 k.take.fit.ok hw,Dq k.take.fit.ok hw];refine aC rfl (OL.nil (AW.sg hE rfl (jg rfl (OL.nil (AW.seq (AW.seq (AW.own 8 28 T.Rat 3 rfl rfl ?_)))))));refine AW.rg hE rfl (aC rfl (OL.nil (AW.block ?_)));refine AW.aU (α:=Nat × Nat × Nat) [(1,_),(6,_),(7,_)] [] (λ(i,bq,cq)=>[(8,.bH 28 bq i cq),(9,.d (dI i))]) (λ(i,bq,cq)=>[(28,.row bq cq T.Rat 3 (((dJ (aY [a]) L w).take i).map dQ))]) (λ(i,bq,cq)=>i<=L.length) (λ(i,bq,cq)=>L.length-i) (0,0,0) (.cons (bY rfl) (.cons (AO rfl) (.cons (bY rfl) .nil))) .nil ⟨Nat.zero_le _,.gy,.cons rfl .nil⟩ ?_
 rintro⟨i,bq,cq⟩ h1
 have h1:i<=L.length:=h1;refine AW.seq (AW.sg hE rfl (ai rfl (ai rfl (fJ sl.gB rfl rfl (aX rfl rfl rfl (OL.nil (AW.cond rfl (λh17=>?_) (λh17=>?_))))))))
 .try simp only[eG] at h17
  refine AW.skip (AW.seq (AW.block ?_));have hi:i<L.length:=by omega
  refine AW.rg hE rfl (gU rfl (ai rfl (ai rfl (ai rfl (fM sl.gB [] rfl rfl (by omega) rfl rfl (iE ce.bT rfl ?_))))))
  rw[aq6 hi];refine bF rfl vL (aR1 (v:=bQ (aY [a]) w) (u:=bQ (bI (aY [a])) (L.getD i [])) (n:=(aY [a]).n) (xw ok w) (xw (Hl ok) _) (by omega) (λj=>Nat.le_trans (Hz z6 hl j) (by decide)) (λj=>Nat.le_trans (Hz z6.turn (hL _ (getD_mem hi [])) j) (by decide))) ?_
  rw[<- ak5 hi];refine xe (y:=dQ ((dJ (aY [a]) L w).getD i 0)) sl.bT yP rfl (by decide) ?_
  refine zB sl.bT rfl rfl rfl (by rw[dD,List.length_take];omega) (VC.d _) (λy hy=>by rw[kJ hy];rfl) (by simp only[jL];omega) (by simp only[jL];omega) (.inr rfl) (ys:=((dJ (aY [a]) L w).take (i+1)).map dQ) (by rw[ZU hi,List.map_append];rfl) (n2:=i+1) rfl λb28 c28=>?_
  exact oC rfl (OL.nil (AW.rg hE rfl (ai rfl (aH rfl rfl (by omega) (aC rfl (OL.nil (AW.again (x:=(i,bq,cq)) (i+1,b28,c28) (by (simp only[];omega)) ⟨by omega,Knows.app .xf .gy,.cons rfl .nil⟩)))))))
 .try simp only[eG] at h17
  refine AW.exit (AW.seq ?_);obtain rfl:i=L.length:=by omega
  exact AW.rg hE rfl (gU rfl (oC rfl (OL.nil (AW.ret (aO.r ⟨_,.tmp rfl .nil,RO.all rfl rfl (by rw[dD,List.length_take];omega) (by rw[List.take_of_length_le (by omega)])⟩)))))
set_option maxRecDepth 8000 in
theorem aF6 {a:Au}{s:Nat}(k:Au.Rk a s):aj P F.tN [zG a] (.jE [.d (dI (Wj a)),.d (dI 0)]):=by
 obtain⟨ok,fl,z6,hn⟩:=k.fa.Uy;have n6:=z6.n6;obtain⟨y1,hI1,e1⟩:=k.fa.inv;obtain⟨y2,hI2,e2⟩:=k.bj9;obtain⟨hk6,hk5,hkw⟩:=Qr hI1 n6;obtain⟨hl6,hl5,_⟩:=Qr hI2 n6;have hkk:(aY [a]).k=a.sym:=JG;have hzv:∀ u,u ∈ y1.ks->∀ j,sz ((dJ (aY [a]) y2.ks u).getD j 0)<=16777215:=λu hu j=>ZV z6 (hk5 u (e1 ▸ hu)) (λl hl=>hl5 l (e2 ▸ hl)) j;have aq9:=Zo k.fa (by decide) hzv hI1 hI2
 rw[e1,e2] at aq9;rw[e1,e2] at hzv;have hvl:=Va (m:=(bI (aY [a]))) (L:=y9 (bI (aY [a])));generalize hKe:y9 (aY [a])=K at hk6 hk5 hkw aq9 hzv;generalize hLe:y9 (bI (aY [a]))=L at hl6 hl5 aq9 hzv hvl;refine aj.intro fn.tN (by rfl) (by rfl) (aA (by rfl)) λE hE=>(AW.sg hE rfl (gW rfl rfl λb1=>(aC rfl (aC rfl (OL.nil (AW.seq (AW.sg hE rfl ?_)))))))
 refine aN ag.Auto rfl rfl (vs:=[_,_,_,_,_,_,_]) rfl (aA rfl) (bF rfl vL (Vb k.take.fit k.wt) (aC rfl (OL.nil (AW.sg hE rfl (ai rfl (fC rfl rfl (c:=false) (by exact nZ (by omega)) (OL.nil ?_)))))))
 refine oz rfl ?_;refine AW.skip (AW.sg hE rfl (aN ag.Auto rfl rfl (vs:=[_,_,_,_,_,_,_]) rfl (aA rfl) (bF rfl vL (Vd (a:=a) k.take.fit.ok k.take.fit.sz k.take.fit.st k.ff) ?_)));rw[hKe];refine yu rfl (ex rfl rfl (ex rfl rfl (aC rfl (aC rfl (OL.nil (AW.sg hE rfl (aN ag.Auto rfl rfl (vs:=[_,_,_,_,_,_,_]) rfl (aA rfl) ?_)))))));refine bF rfl vL (aF5 k.take.fit k.rz k.fr) ?_;rw[hLe];refine aC rfl (OL.nil (AW.sg hE rfl (jg rfl (OL.nil (AW.seq (AW.seq (AW.own 8 44 T.bT 1 rfl rfl ?_)))))));refine AW.rg hE rfl (aC rfl (OL.nil (AW.block ?_)));refine AW.aU (α:=Nat × Nat × Nat) [(1,_),(2,_),(3,_),(5,_),(7,_)] [(1,_)] (λ(i,bq,cq)=>[(8,.bH 44 bq i cq),(9,.d (dI i))]) (λ(i,bq,cq)=>[(44,.row bq cq T.bT 1 (((K.take i).map (dJ (aY [a]) L)).map iG))]) (λ(i,bq,cq)=>i<=K.length/\(L.length=0->i=0)) (λ(i,bq,cq)=>K.length-i) (0,0,0) (.cons (iJ rfl) (.cons (bY rfl) (.cons (bY rfl) (.cons (bY rfl) (.cons (bY rfl) .nil))))) (.cons (kC rfl) .nil) ⟨⟨Nat.zero_le _,λ_=>rfl⟩,.gy,.cons rfl .nil⟩ ?_
 rintro⟨i,bq,cq⟩ ⟨h1,h2⟩
 have h1:i<=K.length:=h1;have h2:L.length=0->i=0:=h2;refine AW.seq (AW.sg hE rfl (ai rfl (ai rfl (fJ sl.dX rfl rfl (aX rfl rfl rfl (OL.split 27 rfl (λha=>?_) (λha=>?_)))))))
 .have ha:i<K.length:=by have:=kK ha;omega
  refine ai rfl (OL.yes rfl (ai rfl (OL.yes rfl (fJ sl.gB rfl rfl (OL.yes rfl (gV rfl rfl rfl (OL.split 31 rfl (λhb=>?_) (λhb=>?_))))))))
  .have hb:0<L.length:=by have:=kK hb;omega
   refine lJ rfl rfl (OL.nil (J4 rfl ?_));refine AW.skip (AW.seq (AW.block ?_));have hku:=getD_mem ha [];have hkv:=hkw _ hku;rw[hkk] at hkv;refine AW.dg 2 [0,1,2,3,4,5,6,7,8,9,10] au hE rfl (by kernel_rfl) (OI.aS (os:=[_,_,_,_,_,_,_,_,_,_,_]) rfl ?_)
   refine gU rfl (aN ag.Auto rfl rfl (vs:=[_,_,_,_,_,_,_]) rfl (aA rfl) (ai rfl (ai rfl (ai rfl (fM sl.dX [] rfl rfl (by omega) rfl rfl (iE ce.ints rfl (bF rfl vL (aR5 (w:=(K.getD i [])) (L:=L) k hkv (Nat.le_succ_of_le (hk5 _ hku)) hl6 (λl hl=>Nat.le_succ_of_le (hl5 l hl))) ?_)))))))
   refine xe (y:=iG (dJ (aY [a]) L (K.getD i []))) sl.gB (VC.d _).vd rfl (by decide) ?_
   refine zB sl.gB rfl rfl rfl (by rw[dD,dD,List.length_take];omega) (VC.d _) (λy hy=>by rw[kJ hy];rfl) (by simp only[jL];omega) (by simp only[jL];omega) (.inr rfl) (ys:=((K.take (i+1)).map (dJ (aY [a]) L)).map iG) (by rw[oW [] ha,List.map_append,List.map_append];rfl) (n2:=i+1) rfl λb44 c44=>?_
   refine oC rfl (OL.nil (AW.rg hE rfl (ai rfl (aH rfl rfl (by omega) (aC rfl (OL.nil ?_))))))
   exact AW.again (x:=(i,bq,cq)) (i+1,b44,c44) (by (simp only[];omega)) ⟨⟨by omega,λh=>by omega⟩,Knows.app .Gs .gy,dw.app (.cons rfl .nil) (.cons rfl .nil)⟩
  .have hb:¬ 0<L.length:=by have:=lD hb;omega
   have hrk:(qJ ((K.take i).map (dJ (aY [a]) L)) ((K.take i).map (dJ (aY [a]) L)).length).length=Wj a:=by
    obtain rfl:L=[]:=Gt (by omega)
    rw[h2 rfl,<- aq9,aB4];rfl
   refine lJ rfl rfl (OL.nil (oz rfl ?_));refine AW.exit (AW.seq ?_);have hvi:((K.take i).map (dJ (aY [a]) L)).length=i:=by rw[dD,List.length_take];omega
   refine AW.freeze 44 rfl (AW.to [(8,.d (.sl (((K.take i).map (dJ (aY [a]) L)).map iG)))] [] (.cons (eH (by rw[dD,hvi]) rfl) .nil) .nil ?_)
   refine AW.rg hE rfl (ai rfl ?_);refine bF rfl vL (Jk (vs:=((K.take i).map (dJ (aY [a]) L))) (n:=max 1 L.length) (by omega) (by omega) (λv hv=>by obtain⟨u,hu,rfl⟩:=jY hv;rw[sK];have:0<i:=(Nat.eq_zero_or_pos i).elim (λh=>by rw[h] at hu;cases hu) id;have:L.length≠0:=(λh=>by have:=h2 h;omega);omega) (λv hv=>by obtain⟨u,hu,rfl⟩:=jY hv;exact hzv u (List.mem_of_mem_take hu))) ?_
   refine yu rfl (ex rfl rfl (ex rfl rfl (aC rfl (aC rfl (OL.nil (AW.seq ?_))))));have hx9:(FC ((K.take i).map (dJ (aY [a]) L)) ((K.take i).map (dJ (aY [a]) L)).length).length=Wj a:=by rw[Ez (Nat.le_refl _),hrk]
   refine AW.rg hE rfl (ai rfl (fJ sl.ints rfl rfl ?_));rw[hx9];exact aC rfl (aC rfl (OL.nil (AW.ret (aO.r ⟨_,.tmp rfl (.tmp rfl .nil),_,.cons (.le vR) (.cons (.le vR) .nil),rfl⟩))))
 .have ha:¬ i<K.length:=by have:=lD ha;omega
  have hrk:(qJ ((K.take i).map (dJ (aY [a]) L)) ((K.take i).map (dJ (aY [a]) L)).length).length=Wj a:=by
   rw[show K.take i=K from List.take_of_length_le (by omega),aq8];exact aq9
  refine ai rfl (OL.nd rfl (OL.nd rfl (OL.nd rfl (jZ rfl rfl (OL.nil (oz rfl ?_))))));refine AW.exit (AW.seq ?_);have hvi:((K.take i).map (dJ (aY [a]) L)).length=i:=by rw[dD,List.length_take];omega
  refine AW.freeze 44 rfl (AW.to [(8,.d (.sl (((K.take i).map (dJ (aY [a]) L)).map iG)))] [] (.cons (eH (by rw[dD,hvi]) rfl) .nil) .nil ?_)
  refine AW.rg hE rfl (ai rfl ?_);refine bF rfl vL (Jk (vs:=((K.take i).map (dJ (aY [a]) L))) (n:=max 1 L.length) (by omega) (by omega) (λv hv=>by obtain⟨u,hu,rfl⟩:=jY hv;rw[sK];have:0<i:=(Nat.eq_zero_or_pos i).elim (λh=>by rw[h] at hu;cases hu) id;have:L.length≠0:=(λh=>by have:=h2 h;omega);omega) (λv hv=>by obtain⟨u,hu,rfl⟩:=jY hv;exact hzv u (List.mem_of_mem_take hu))) ?_
  refine yu rfl (ex rfl rfl (ex rfl rfl (aC rfl (aC rfl (OL.nil (AW.seq ?_))))));have hx9:(FC ((K.take i).map (dJ (aY [a]) L)) ((K.take i).map (dJ (aY [a]) L)).length).length=Wj a:=by rw[Ez (Nat.le_refl _),hrk]
  refine AW.rg hE rfl (ai rfl (fJ sl.ints rfl rfl ?_));rw[hx9];exact aC rfl (aC rfl (OL.nil (AW.ret (aO.r ⟨_,.tmp rfl (.tmp rfl .nil),_,.cons (.le vR) (.cons (.le vR) .nil),rfl⟩))))
end Go.Proofs.YtnjoncgnjdkaoaaGreatDoor
namespace Go.AL
open Go Go.BigFrame
section
variable {m:dZ}{N E:Nat}
theorem Yv (hn:m.n<=N)(hi:∀ i,IB 1 24 (m.ini.getD i 0))(he:∀ s i j,IB 1 E (sG m s i j)):∀ (n:Nat) (w:List Int),w.length=n->∀ i,IB (n+1) (24*(N*E) ^ n) ((bQ m w).getD i 0)
 | 0,w,h,i=>by rw[Gt h];exact (hi i).mono (Nat.le_refl _)
 | n+1,w,h,i=>by
  have hne:w≠[]:=λe=>by subst e;cases h
  obtain⟨y,x,rfl⟩:∃ y x,w=y++[x]:=⟨w.dropLast,w.getLast hne,(List.dropLast_concat_getLast hne).symm⟩;rw[lW];unfold stepM;refine al8 (λc=>?_) i;have h1:=IB.aW (k:=n+1+1) (C:=24*(N*E) ^ n*E) (λa=>(Yv hn hi he n y (by rw[iU,jL] at h;omega) a).mul (he (x.toNat-1) a c)) m.n
  refine h1.mono ?_;have h2:=Nat.mul_le_mul_right (24*(N*E) ^ n*E) hn;refine Nat.le_trans h2 (Nat.le_of_eq ?_);rw[Nat.pow_succ,Nat.mul_left_comm];exact Nat.mul_assoc ..
theorem aF7 (hn:m.n<=N)(hi:∀ i,IB 1 24 (m.ini.getD i 0))(hf:∀ i,IB 1 24 (m.fin.getD i 0))(he:∀ s i j,IB 1 E (sG m s i j))(w:List Int):IB (w.length+2) (N*(24*(N*E) ^ w.length*24)) (wW m w):=by
 unfold wW Bl;have h1:=IB.aW (k:=w.length+1+1) (C:=24*(N*E) ^ w.length*24) (λa=>(Yv hn hi he w.length w rfl a).mul (hf a)) m.n;exact h1.mono (Nat.mul_le_mul_right _ hn)
end
section
variable {a:Au}{s most:Nat}{w:List Int}
theorem Kw {k C:Nat}{l:List Rat}(h:∀ q,q ∈ l->IB k C q)(i:Nat):IB k C (l.getD i 0):=by
 rcases Nat.lt_or_ge i l.length with hi|hi
 .exact h _ (getD_mem hi 0)
 .rw[EH hi];exact IB.zero
theorem Pla.ent (p:Pla a s most)(t i j:Nat):IB 1 336 (sG (aY [a]) t i j):=by
 by_cases h:t<a.sym/\i<a.st/\j<a.st
 .rw[IK h.1 (by rw[gG];exact h.2.1) (by rw[gG];exact h.2.2)]
  simp only[AP,if_pos h.2.1,if_pos h.2.2];have h1:IB 1 (a.aP.length*24) (jd a.aP t i j):=IB.jD λx hx=>by
   split
   .exact p.arc x hx
   .exact IB.zero
  exact h1.mono (Nat.mul_le_mul_right 24 p.num)
 .rw[show sG (aY [a]) t i j = 0 from ?_]
  .exact IB.zero
  .unfold sG;by_cases ht:t<a.sym
   .rw[show (aY [a]).Bj.getD t []=Gf (um [a]) (AP [a] t) from aK _ _ ht,gG]
    by_cases hi:i<a.st
    .unfold Gf;rw[aK _ _ hi,EH (by simp;omega)]
    .unfold Gf;rw[EH (l:=(List.range _).map _) (by simp;omega)];rfl
   .rw[EH (l:=(aY [a]).Bj) (by simp[aY];omega)];rfl
theorem Pla.wt (p:Pla a s most)(w:List Int):IB (w.length+2) (most*(24*(most*336) ^ w.length*24)) (jm a w) :=
 aF7 (m:=aY [a]) (by rw[show (aY [a]).n=a.st from gG];exact p.st) (by rw[show (aY [a]).ini=a.ini++[] from rfl,List.append_nil];exact Kw p.ini) (by rw[show (aY [a]).fin=a.fin++[] from rfl,List.append_nil];exact Kw p.fin) p.ent w
theorem WX {n:Int}{C:Nat}(h:n.natAbs*46656<=C):IB 6 C (n:Rat):=⟨n*46656,by
 rw[Rat.intCast_mul];rfl,by rw[Int.natAbs_mul];exact h⟩
end
section
variable {f g:List Int->Rat}{C K:List (List Int)}{k q i n:Nat}
theorem JM {u:List Int}(h:∀ l,l ∈ C->f (u++l)=g (u++l)):bU f C u=bU g C u:=List.map_congr_left h
theorem ZW (h:∀ w,w ∈ ah k n->f w=g w)(hq:q+q<=n):Ot k f q=Ot k g q:=by
 unfold Ot;rw[show (ah k q).map (bU f (ah k q))=(ah k q).map (bU g (ah k q)) from List.map_congr_left λu hu=>JM λl hl=>h _ (bW.2 ⟨λx hx=>(rD hx).elim ((bW.1 hu).1 x) ((bW.1 hl).1 x),by rw[iU];have:=(bW.1 hu).2;have:=(bW.1 hl).2;omega⟩)]
theorem ZX (h:∀ u l,u ∈ C->l ∈ C->f (u++l)=g (u++l)):gX f C i=gX g C i:=by
 unfold gX;rw[show (C.take i).map (bU f C)=(C.take i).map (bU g C) from List.map_congr_left λu hu=>JM λl hl=>h u l (List.mem_of_mem_take hu) hl]
theorem aR6 {r B:Nat}(hf:IL (zD k f) r)(h1:1<=B)(hz:∀ u l,u ∈ C->l ∈ C->sz (f (u++l))<=B)(hC:∀ u,u ∈ C->iV k u):(gX f C i).length<=r:=by
 have h:=H9 (n:=C.length) h1 ((C.take i).map (bU f C)) (λv hv=>by obtain⟨u,_,rfl⟩:=jY hv;exact dD ..) λv hv j=>by
  obtain⟨u,hu,rfl⟩:=jY hv;rcases Nat.lt_or_ge j C.length with hj|hj
  .rw[uy hj];exact hz u _ (List.mem_of_mem_take hu) (getD_mem hj [])
  .rw[uq (by rw[show (bU f C u).length=C.length from dD ..];exact hj),fK];exact h1
 exact UI hf (λu hu=>hC u (List.mem_of_mem_take hu)) hC h.1.ech h.2.1
theorem aF8 {a:Au}{s:Nat}(w:List Int)(hw:w ∈ ah s n):ay (ah s n) ((ah s n).map (jm a)) w=jm a w:=by
 obtain⟨hi,e⟩:=Ie hw;unfold ay;rw[gI,List.getElem?_map,kL hi];rw[gI,kL hi] at e;show jm a (ah s n)[(ah s n).idxOf w]=_
 rw[show (ah s n)[(ah s n).idxOf w]=w from e]
end
theorem ZY {a:Au}{s:Nat}(p:Pla a s 2){v:List Int->Rat}(hv:∀ w,w ∈ ah a.sym 4->v w=jm a w){k:Nat}(hk:k<2) :
  Ot a.sym v k<=Ot a.sym v (k+1)/\Ot a.sym v (k+1)<=Wj a/\Ot a.sym v 2=Wj a/\∀ q,q<=2->∀ i,(gX v (ah a.sym q) i).length<=6:=by
 have hz:∀ q,q<=2->∀ u l,u ∈ ah a.sym q->l ∈ ah a.sym q->sz (jm a (u++l))<=16777215:=λq hq u l hu hl=>p.ser (by decide) (λx hx=>(rD hx).elim ((bW.1 hu).1 x) ((bW.1 hl).1 x)) (by rw[iU];have:=(bW.1 hu).2;have:=(bW.1 hl).2;omega)
 have c:∀ q,q<=2->Ot a.sym v q=Ot a.sym (jm a) q:=λq hq=>ZW hv (by omega)
 have f:=p.few (by decide)
 have z:(aY [a]).Sz 24:=Eh (λx hx=>by rw[kJ hx];exact f) (by rw[gG];exact f.st) (by show a.sym<=4;have:=p.s3;have:=p.sym;omega)
 have hr:=E9 (aY [a]);rw[JG] at hr;have az0:IL (zD a.sym (jm a)) (Wj a):=hr.fac;have hle:Wj a<=2:=by
  have h:=XP (aY [a]);rw[JG,show (aY [a]).n=a.st from gG] at h
  exact Nat.le_trans h p.st
 have up:∀ q,q<=2->Ot a.sym (jm a) q<=Wj a:=λq hq=>aO3 az0 (by decide:1<=16777215) (hz q hq)
 have dn:Wj a<=Ot a.sym (jm a) 2:=by
  have h:=aC2 (m:=aY [a]) (q:=2) (B:=16777215) (MG p.ok) z (by rw[show (aY [a]).n=a.st from gG];have:=p.st;omega) (by decide) (by rw[JG];exact hz 2 (by decide))
  rw[JG] at h;exact h
 refine⟨?_,?_,?_,λq hq i=>?_⟩
 .rw[c k (by omega),c (k+1) (by omega)]
  exact al6 (by decide:1<=16777215) (hz (k+1) (by omega))
 .rw[c (k+1) (by omega)];exact up (k+1) (by omega)
 .rw[c 2 (by decide)];exact Nat.le_antisymm (up 2 (by decide)) dn
 .rw[ZX (g:=jm a) λu l hu hl=>hv _ (bW.2 ⟨λx hx=>(rD hx).elim ((bW.1 hu).1 x) ((bW.1 hl).1 x),by rw[iU];have:=(bW.1 hu).2;have:=(bW.1 hl).2;omega⟩)]
  exact Nat.le_trans (aR6 az0 (by decide:1<=16777215) (hz q hq) λu hu=>(bW.1 hu).1) (by omega)
def RI:List Rat:=[((1:Int):Rat),((2:Int):Rat),((4:Int):Rat),((8:Int):Rat)]
def kv2:List Rat:=[((1:Int):Rat),((2:Int):Rat),((4:Int):Rat),((9:Int):Rat)]
abbrev kF (vs:List Rat):List Int->Rat:=ay (ah 1 3) vs
abbrev kO (vs:List Rat):Au:=Ya 1 (kF vs) (ah 1 1)
theorem ar0:eU (kF RI) (ah 1 1) (ah 1 1).length=[[]]:=by decide +kernel
theorem ar1:bg (gX (kF RI) (ah 1 1) (ah 1 1).length) (sO (kF RI) (ah 1 1) [] 1)=false:=by decide +kernel
theorem aG0:∀ w,w ∈ ah 1 3->jm (kO RI) w=kF RI w:=by decide +kernel
theorem aG1:¬ ∀ w,w ∈ ah 1 3->jm (kO kv2) w=kF kv2 w:=by decide +kernel
theorem ar2:(vH (kO RI).aP).length=1/\((vH (kO RI).aP).getD 0 default).q=((2:Int):Rat)/\(kO RI).st=1:=by decide +kernel
theorem ar4 {y:Option Au}(h:RcQ 1 (kF RI) (ah 1 1) (ah 1 3) y):y=some (kO RI):=by
 cases y with
 | none =>
  rcases h with ⟨u,l,hu,l1,l2,hg⟩|⟨w,hw,hne⟩
  .rw[ar0,List.mem_singleton] at hu;subst hu;obtain rfl:l=1:=by omega
   rw[ar1] at hg;cases hg
  .exact absurd (aG0 w hw) hne
 | some a=>rw[h.1]
theorem ar5 {y:Option Au}(h:RcQ 1 (kF kv2) (ah 1 1) (ah 1 3) y):y=none:=by
 cases y with
 | none=>rfl
 | some a =>
  obtain⟨rfl,_,h3⟩:=h;exact absurd h3 aG1
theorem NW {n:Int}(h:n.natAbs<=100):sz ((n:Rat))<=1:=(WX (C:=4665600) (by omega)).sz (t:=1) (by decide) (by decide)
theorem aR7:Small 1 RI:=λq hq=>by
 simp only[RI,List.mem_cons,List.not_mem_nil,or_false] at hq;rcases hq with rfl|rfl|rfl|rfl <;> exact NW (by decide)
theorem aR8:Small 1 kv2:=λq hq=>by
 simp only[kv2,List.mem_cons,List.not_mem_nil,or_false] at hq;rcases hq with rfl|rfl|rfl|rfl <;> exact NW (by decide)
theorem a98 {q:Rat}{C:Nat}(h:IB 6 C q)(hC:C*6<=3888*1080 ^ 5):IB 7 (3888*1080 ^ 5) q:=(h.up 1).mono hC
theorem aR9 (w:List Int):IB 7 (3888*1080 ^ 5) (kF RI w):=a98 (C:=4665600) (Kw (λq hq=>by
 simp only[RI,List.mem_cons,List.not_mem_nil,or_false] at hq;rcases hq with rfl|rfl|rfl|rfl <;> exact WX (by decide)) _) (by decide +kernel)
theorem aS0 (w:List Int):IB 7 (3888*1080 ^ 5) (kF kv2 w):=a98 (C:=4665600) (Kw (λq hq=>by
 simp only[kv2,List.mem_cons,List.not_mem_nil,or_false] at hq;rcases hq with rfl|rfl|rfl|rfl <;> exact WX (by decide)) _) (by decide +kernel)

/-
  Walks of packages automaton, words, weigh: normal forms, valid words (printed by mk2.py).
-/
import Derived.Test.YteiohkpjgcioaaaGreatDoorKMod111
set_option linter.unusedVariables false
set_option linter.unusedSimpArgs false
namespace Go.Proofs.YteiohkpjgcioaaaGreatDoor
open Go Go.AL
abbrev JB:V:=.ref [dI 1,.sl []]
theorem as1:VCs [.d (dI 0),.d (dI 0),.d (dI 0),.d (dB false),.mt,.mt,.d (dI 0),.d (dB false),.d (dU 0),.mt,.mt] (iO default).cells:=by
 show VCs _ [dI 0,dI 0,dI 0,dB (eU 0).neg,aC (eU 0).num,aC (eU 0).den,dI 0,dB false,dU 0,.sl [],.sl []]
 rw[qp];exact .cons (VC.d _) (.cons (VC.d _) (.cons (VC.d _) (.cons (VC.d _) (.cons VC.mt (.cons VC.mt (.cons (VC.d _) (.cons (VC.d _) (.cons (VC.d _) (.cons VC.mt (.cons VC.mt .nil))))))))))
theorem aR8 {x:aT}(hz:sz x.q<=68719476736):ai P F.oP [KG x,JB] (.d (dB (decide (x.q=0)))):=by
 refine ai.intro fn.oP (by rfl) (by rfl) (au (by rfl)) λE hE=>(AW.sg hE rfl (iC rfl rfl λb2=>(ay rfl (OL.nil (AW.sg hE rfl (iU ag.Ring rfl (vs:=[_,_]) rfl (au rfl) (aF fd.wz rfl rfl ?_)))))))
 exact aG ag.aA rfl rfl (vs:=[_,_,_,_,_,_,_,_]) rfl (au rfl) (aY rfl .dR (aE9 hz) (ay rfl (OL.nil (AW.ret (aH.r ⟨_,.tmp rfl .nil,.le vR⟩)))))
theorem aF4 {l:List aT}{f:Nat}{cap:V}{p:aT->Bool}(hf:∀ x,x ∈ l->ai P f [KG x,cap] (.d (dB (p x)))){n b c:Nat}(hl:l.length=n)(nl:n<=1099511627776):fV P F.gQ [.bJ 1000 b n c,.fn f [cap]] (mem1 1000 (rowA b c l)) (.d (dI (GZ p l))) (mem1 1000 (rowA b c l)):=by
 refine fV.intro fn.gQ (by rfl) (by rfl) (au (by rfl)) λE hE=>(AW.sg hE rfl (ay rfl (OL.nil (AW.seq (AW.sg hE rfl (fQ rfl (WI sl.cZ rfl rfl ?_)))))))
 refine ah rfl (OL.nil (AW.block ?_));refine AW.aK (α:=Nat) [(0,_),(1,_),(7,_)] [] (λi=>[(8,.d (dI i))]) (λi=>[(1000,rowA b c l)]) (λi=>i<=l.length/\∀ j,j<i->p (l.getD j default)=false) (λi=>l.length-i) 0 (.cons (uH rfl) (.cons (EM rfl) (.cons (bM rfl) .nil))) .nil ⟨⟨Nat.zero_le _,λj hj=>by omega⟩,.bC,.cons rfl .nil⟩ ?_
 rintro i ⟨h1,h2⟩
 refine AW.sg hE rfl (aN rfl rfl rfl (OL.nil (AW.seq (AW.cond rfl (λh9=>?_) (λh9=>?_)))))
 .try simp only[bY] at h9
  refine AW.skip (AW.seq (AW.block (AW.sg hE rfl (ah rfl (ay rfl (OL.nil (AW.sg hE rfl ?_)))))));refine EL rfl (fQ rfl (ah rfl (dV sl.cZ rfl rfl (by omega) (wS ag.mD (by decide) rfl rfl (iT (show i<l.length by omega)) (vs:=gI (l.getD i default)) rfl (au rfl) (aY rfl .dR (hf (l.getD i default) (getD_mem (by omega) _)) (OL.nil (AW.cond rfl (λh16=>?_) (λh16=>?_))))))))
  .have h16:=h16;exact AW.sg hE rfl (ah rfl (ay rfl (OL.nil (AW.ret ⟨⟨_,.tmp rfl .nil,.le (aZ.int ((wX (by omega) default h16 h2).symm))⟩,bH rfl⟩))))
  .have h16:=h16;refine AW.skip (AW.rg hE rfl (aB rfl rfl (by omega) (ah rfl (OL.nil ?_))))
   exact AW.again (x:=i) (i+1) (by omega) ⟨⟨by omega,λj hj=>by rcases Nat.lt_or_ge j i with h|h;exact h2 j h;obtain rfl:j=i:=(by omega);exact h16⟩,Knows.app .wL .bC,.cons rfl .nil⟩
 .try simp only[bY] at h9
  exact AW.exit (AW.sg hE rfl (ay rfl (OL.nil (AW.ret ⟨⟨_,.tmp rfl .nil,.le (aZ.int ((zk default λj hj=>h2 j (by omega)).symm))⟩,bH rfl⟩))))
theorem as2 {p:aT->Bool}{l:List aT}{j:Nat}(hj:j<l.length):(l.take (j+1)).filter (λx=>!p x)=(l.take j).filter (λx=>!p x)++if p (l.getD j default)=true then [] else [l.getD j default]:=by
 rw[List.take_add_one,List.filter_append,iZ,sU hj];simp only[Option.toList_some,Option.getD_some,List.filter_cons,List.filter_nil];cases p l[j] <;> rfl
theorem as3 {u:List aT}{i:Nat}{x:aT}(h:i<u.length):(u.set i x).take (i+1)=u.take i++[x]:=by
 rw[List.take_add_one,List.take_set_of_le (Nat.le_refl _),List.getElem?_set_self h];rfl
theorem QO {p:aT->Bool}{l:List aT}{j:Nat}(hj:j<=l.length)(h:∀ k,k<j->p (l.getD k default)=false):(l.take j).filter (λx=>!p x)=l.take j:=by
 refine List.filter_eq_self.2 λx hx=>?_;obtain⟨k,hk,e⟩:=List.mem_iff_getElem.1 hx;rw[List.length_take] at hk;rw[List.getElem_take] at e;have:=h k (by omega)
 rw[iZ,sU (by omega),Option.getD_some,e] at this
 rw[this];rfl
theorem Zj {p:aT->Bool}{l:List aT}:(GZ p l = -1/\∀ k,k<l.length->p (l.getD k default)=false) \/ ∃ i:Nat,GZ p l=(i:Int)/\i<l.length/\p (l.getD i default)=true/\∀ k,k<i->p (l.getD k default)=false:=by
 by_cases h:∃ i,i<l.length/\p (l.getD i default)=true
 .obtain⟨i,⟨h1,h2⟩,h3⟩:=ap5 (p:=λi=>i<l.length/\p (l.getD i default)=true) _ h.choose_spec;have hk:∀ k,k<i->p (l.getD k default)=false:=λk hk=>Bool.eq_false_iff.2 λe=>by have:=h3 k ⟨by omega,e⟩;omega
  exact .inr ⟨i,wX h1 default h2 hk,h1,h2,hk⟩
 .have hk:∀ k,k<l.length->p (l.getD k default)=false:=λk hk=>Bool.eq_false_iff.2 λe=>h ⟨k,hk,e⟩;exact .inl ⟨zk default hk,hk⟩
set_option maxHeartbeats 800000 in
theorem aF5 {l:List aT}{n f:Nat}{cap:V}{p:aT->Bool}(hf:∀ x,x ∈ l->ai P f [KG x,cap] (.d (dB (p x))))(hl:l.length=n)(nl:n<=134217728):NR P F.jH (λs=>[s,.fn f [cap]]) n T.mD 11 (l.map iO) (l.filter (λx=>!p x)).length ((l.filter (λx=>!p x)).map iO):=by
 refine NR.intro fn.jH (by rfl) (by rfl) (λ_=>Nat.le_of_ble_eq_true (by rfl)) 4 rfl λE b c hE=>(AW.rename 0 1000 rfl (AW.to [(0,.bJ 1000 b n c),(1,.fn f [cap])] [(1000,rowA b c l)] (.cons aZ.bJ .bC) (.cons rfl .nil) (AW.sg hE rfl (oq rfl (OL.nil (AW.sg hE rfl (fQ rfl ?_)))))))
 refine EL rfl (OL.qo (v:=.d (dI (GZ p l))) (.mk (args':=[.bJ 1000 b n c,.fn f [cap]]) rfl (.cons aZ.bJ .bC) (bH (id:=1000) (blk:=rowA b c l) rfl) gy (aF4 hf hl (by omega))) (ay rfl (OL.nil (AW.seq (AW.sg hE rfl (ah rfl (dm rfl rfl rfl ?_)))))))
 refine OL.nil (AW.cond rfl (λh12=>?_) (λh12=>?_))
 .have h12:GZ p l = -1:=jC h12;have e0:l.filter (λx=>!p x)=l:=by have:=QO (p:=p) (Nat.le_refl l.length) (Zj.resolve_right (λ⟨i,e,_⟩=>by omega)).2;rwa [List.take_length] at this
  rw[e0,hl];exact AW.sg hE rfl (fQ rfl (uj rfl (OL.nil (AW.ret ⟨.inr rfl,1000,b,c,l.map iO,rfl,rfl,by rw[dF];omega,by rw[List.take_of_length_le (by rw[dF];omega)]⟩))))
 .have h12:GZ p l ≠ -1:=kK h12;obtain⟨i0,g1,g2,g3,g4⟩:=Zj.resolve_left (λe=>h12 e.1);rw[g1];refine AW.skip (AW.seq (AW.sg hE rfl (ah rfl (aB rfl rfl (by omega) (ay rfl (OL.nil (AW.block ?_)))))))
  refine AW.aK (α:=Nat × Nat × List aT) [(0,_),(1,_),(4,_)] [] (λ(i,j,u)=>[(5,.d (dI i)),(6,.d (dI j))]) (λ(i,j,u)=>[(1000,rowA b c u)]) (λ(i,j,u)=>i<j/\j<=n/\u.length=n/\u.take i=(l.take j).filter (λx=>!p x)/\∀ k,j<=k->u.getD k default=l.getD k default) (λ(i,j,u)=>n-j) (i0,i0+1,l) (.cons (uH rfl) (.cons (EM rfl) (.cons (zi rfl) .nil))) .nil ⟨⟨by omega,by omega,hl,by rw[as2 (by omega),QO (by omega) g4,if_pos g3,List.append_nil],λk _=>rfl⟩,.dR,.cons rfl .nil⟩ ?_
  rintro⟨i,j,u⟩ ⟨h1,h2,h3,h4,h5⟩
  have h1:i<j:=h1;have h2:j<=n:=h2;have h3:u.length=n:=h3;refine AW.seq (AW.sg hE rfl (ah rfl (fQ rfl (WI sl.cZ rfl rfl (aN rfl rfl rfl (OL.nil (AW.cond rfl (λh19=>?_) (λh19=>?_))))))))
  .try simp only[bY] at h19
   refine AW.skip (AW.seq (AW.block (AW.sg hE rfl (fQ rfl (ah rfl (dV sl.cZ rfl rfl (by omega) (wS ag.mD (by decide) rfl rfl (iT (show j<u.length by omega)) (vs:=gI (u.getD j default)) rfl (au rfl) ?_)))))))
   rw[h5 j (Nat.le_refl _)];refine al z.mD rfl λb7=>(dA sz.mD rfl rfl rfl rfl rfl (au rfl) (cells2:=[_,_,_,_,_,_,_,_,_,_,_]) rfl (OL.nil (AW.sg hE rfl (EL rfl (aG ag.mD rfl rfl (vs:=[_,_,_,_,_,_,_,_,_,_,_]) rfl (au rfl) (aY rfl .dR (hf (l.getD j default) (getD_mem (by omega) _)) (nt rfl ?_)))))))
   refine OL.nil (AW.cond rfl (λhp=>?_) (λhp=>?_))
   .have hp:p (l.getD j default)=false:=by simpa using hp
    refine AW.sg hE rfl (fQ rfl (ah rfl (aG ag.mD rfl rfl (vs:=[_,_,_,_,_,_,_,_,_,_,_]) rfl (au rfl) (dV sl.cZ rfl rfl (by omega) (AA sz.mD rfl (d:=iO (l.getD j default)) tu rfl rfl (by rw[dF];omega) (es2:=(u.set i (l.getD j default)).map iO) (by rw[List.map_set]) (OL.nil (AW.rg hE rfl ?_)))))))
    refine ah rfl (aB rfl rfl (by omega) (ay rfl (OL.nil (AW.rg hE rfl (ah rfl (aB rfl rfl (by omega) (ay rfl ?_)))))))
    refine OL.nil ?_;exact AW.again (x:=(i,j,u)) (i+1,j+1,u.set i (l.getD j default)) (by (simp only[];omega)) ⟨⟨by omega,by omega,by rw[List.length_set];exact h3,by rw[as2 (by omega),<- h4,if_neg (by rw[hp];decide)];exact as3 (by omega),λk hk=>by rw[KE (by omega),if_neg (by omega)];exact h5 k (by omega)⟩,Knows.app .wL .dR,.cons rfl .nil⟩
   .have hp:p (l.getD j default)=true:=by simpa using hp
    refine AW.skip (AW.rg hE rfl (ah rfl (aB rfl rfl (by omega) (ay rfl (OL.nil ?_)))))
    exact AW.again (x:=(i,j,u)) (i,j+1,u) (by (simp only[];omega)) ⟨⟨by omega,by omega,h3,by rw[as2 (by omega),if_pos hp,List.append_nil];exact h4,λk hk=>h5 k (by omega)⟩,Knows.app .wL .dR,.cons rfl .nil⟩
  .try simp only[bY] at h19
   refine AW.exit (AW.seq ?_);obtain rfl:j=n:=by omega
   have hf0:l.filter (λx=>!p x)=u.take i:=by rw[h4,List.take_of_length_le (by omega)]
   have hti:(u.take i).length=i:=by rw[List.length_take];omega
   rw[hf0,hti];refine AW.RZ (by rw[hE];rfl) (SL.dG (fQ rfl (OL.nil ?_)))
   refine SL.dG (ah rfl (OL.nil ?_));refine SL.dG (slB (l:=i) (n2:=j-i) sl.cZ rfl rfl (by omega) rfl (OL.nil ?_))
   refine SL.G5 rfl (SO.aq5 (z:=iO default) trivial sl.cZ z.mD as1 rfl rfl (by rw[dF];omega) ?_)
   refine AW.sg hE rfl (fQ rfl (ah rfl (slO (h:=i) sl.cZ rfl rfl (by omega) (uj rfl (OL.nil ?_)))))
   exact AW.ret ⟨.inr rfl,1000,b,c,_,rfl,rfl,by rw[jT,List.length_take,dF,List.length_replicate];omega,by rw[List.take_append_of_le_length (by rw[List.length_take,dF];omega),List.take_take,Nat.min_self,List.map_take]⟩
def ad5 (k:Nat)(l:List aT):Prop:=∀ x,x ∈ l->sz x.q<=(k+1)*134217730
theorem ad6 {k:Nat}{out:List aT}{x:aT}(h:ad5 k out)(hx:sz x.q<=134217728):ad5 (k+1) (jP out x):=by
 have up:∀ y,sz y<=(k+1)*134217730->sz y<=(k+1+1)*134217730:=λy hy=>Nat.le_trans hy (Nat.mul_le_mul_right _ (Nat.le_succ _));intro y hy;unfold jP at hy
 split at hy
 .rename_i hc;rcases List.mem_or_eq_of_mem_set hy with hy|rfl
  .exact up _ (h y hy)
  .have h1:=h _ (getD_mem (show out.length-1<out.length by omega) default)
   have h2:=vz (out.getD (out.length-1) default).q x.q;show sz ((out.getD (out.length-1) default).q+x.q)<=_
   omega
 .rcases BO hy with hy|hy
  .exact up _ (h y hy)
  .rw[qm hy];omega
theorem ad7 {l:List aT}{i:Nat}(hi:i<l.length):(l.take (i+1)).foldl jP []=jP ((l.take i).foldl jP []) (l.getD i default):=by
 rw[List.take_add_one,List.foldl_append,sU hi,iZ,sU hi];rfl
theorem XT (out:List aT)(x:aT):(jP out x).length<=out.length+1:=by
 unfold jP
 split
 .rw[List.length_set];omega
 .rw[jT];exact Nat.le_refl _
theorem aF6 {l:List aT}(nl:l.length<=134217728):kR P F.ny [.d (oW l)] l.length T.mD 11 (l.map iO):=by
 refine kR.intro fn.ny (by rfl) (by rfl) (au (by rfl)) 2 rfl λE hE=>(AW.sg hE rfl (oq rfl (OL.nil (AW.seq (AW.sg hE rfl (ah rfl (isNil sl.cZ.u rfl (λy hy=>by obtain⟨a,_,rfl⟩:=Az hy;exact Nat.succ_pos _) rfl λb hb=>?_)))))))
 refine OL.nil (AW.cond rfl (λh=>?_) (λh=>?_))
 .have hL:l=[]:=by have:=hb h;simpa using this
  subst hL;exact AW.sg hE rfl (oq rfl (OL.nil (AW.own 2 99 T.mD 11 rfl rfl (AW.ret ⟨.inr rfl,99,0,0,[],rfl,rfl,Nat.le_refl _,rfl⟩))))
 .have _h:=h;exact AW.skip (AW.sg hE rfl (lt0 sl.cZ (ah rfl (apM sl.cZ rfl rfl (VC.d _) Fz (by simp;omega) (by simp;omega) rfl λb7 c7=>(uj rfl (OL.nil (AW.ret ⟨.inr rfl,7,b7,c7,l.map iO,by show V.bJ 7 b7 (List.map iO l).length c7=_;rw[dF],rfl,by rw[dF];exact Nat.le_refl _,List.take_of_length_le (by rw[dF];exact Nat.le_refl _)⟩)))))))
def outA (S:List aT)(i:Nat):List aT:=(S.take i).foldl jP []
theorem uU {S:List aT}{i:Nat}(hi:i<S.length):outA S (i+1)=jP (outA S i) (S.getD i default):=ad7 hi
theorem FK {S:List aT}{i:Nat}(hi:S.length<=i):outA S i=S.foldl jP []:=by unfold outA;rw[List.take_of_length_le hi]
theorem JC (S:List aT):∀ i,(outA S i).length<=i
 | 0=>Nat.le_refl _
 | i + 1 => by
  rcases Nat.lt_or_ge i S.length with h|h
  .rw[uU h];have:=XT (outA S i) (S.getD i default);have:=JC S i;omega
  .rw[FK (Nat.le_succ_of_le h),<- FK h];have:=JC S i;omega
theorem Tf {S:List aT}(hz:∀ x,x ∈ S->sz x.q<=134217728):∀ i,ad5 i (outA S i)
 | 0=>λx hx=>by cases hx
 | i + 1 => by
  rcases Nat.lt_or_ge i S.length with h|h
  .rw[uU h];exact ad6 (Tf hz i) (hz _ (getD_mem h default))
  .rw[FK (Nat.le_succ_of_le h),<- FK h];exact λx hx=>Nat.le_trans (Tf hz i x hx) (Nat.mul_le_mul_right _ (Nat.le_succ _))
abbrev rAu (a:Au):V:=.ref [dI 1,.sl [],dI a.sym,dI a.st,yE a.ini,yE a.fin,oW a.aX]
theorem aS0 {l:List Rat}{f:Nat}{cap:V}{p:Rat->Bool}(hf:∀ x,x ∈ l->ai P f [vW x,cap] (.d (dB (p x))))(nl:l.length<=1099511627776):ai P F.iL [.d (yE l),.fn f [cap]] (.d (dI (GZ p l))):=by
 refine ai.intro fn.iL (by rfl) (by rfl) (au (by rfl)) λE hE=>(AW.sg hE rfl (ay rfl (OL.nil (AW.seq (AW.sg hE rfl (ah rfl (eH sl.aS rfl rfl ?_)))))))
 refine ah rfl (OL.nil (AW.block ?_));refine AW.aK (α:=Nat) [(0,_),(1,_),(7,_)] [] (λi=>[(8,.d (dI i))]) (λi=>[]) (λi=>i<=l.length/\∀ j,j<i->p (l.getD j 0)=false) (λi=>l.length-i) 0 (.cons (bM rfl) (.cons (EM rfl) (.cons (bM rfl) .nil))) .nil ⟨⟨Nat.zero_le _,λj hj=>by omega⟩,.bC,.nil⟩ ?_
 rintro i ⟨h1,h2⟩
 refine AW.sg hE rfl (aN rfl rfl rfl (OL.nil (AW.seq (AW.cond rfl (λh9=>?_) (λh9=>?_)))))
 .try simp only[bY] at h9
  refine AW.skip (AW.seq (AW.block (AW.sg hE rfl (ah rfl (ay rfl (OL.nil (AW.sg hE rfl ?_)))))));refine EL rfl (ah rfl (ah rfl (bg sl.aS 0 rfl rfl (by omega) rfl rfl (iU ag.aA rfl (vs:=[_,_,_,_,_,_,_,_]) rfl (au rfl) (aY rfl .dR (hf (l.getD i 0) (getD_mem (by omega) _)) (OL.nil (AW.cond rfl (λh16=>?_) (λh16=>?_))))))))
  .have h16:=h16;exact AW.sg hE rfl (ah rfl (ay rfl (OL.nil (AW.ret (aH.r ⟨_,.tmp rfl .nil,.le (aZ.int ((wX (by omega) 0 h16 h2).symm))⟩)))))
  .have h16:=h16;refine AW.skip (AW.rg hE rfl (aB rfl rfl (by omega) (ah rfl (OL.nil ?_))))
   exact AW.again (x:=i) (i+1) (by omega) ⟨⟨by omega,λj hj=>by rcases Nat.lt_or_ge j i with h|h;exact h2 j h;obtain rfl:j=i:=(by omega);exact h16⟩,Knows.app .wL .bC,.nil⟩
 .try simp only[bY] at h9
  exact AW.exit (AW.sg hE rfl (ay rfl (OL.nil (AW.ret (aH.r ⟨_,.tmp rfl .nil,.le (aZ.int ((zk 0 λj hj=>h2 j (by omega)).symm))⟩)))))
theorem ad8 {l:List Rat}{f:Nat}{cap:V}{p:Rat->Bool}(hf:∀ x,x ∈ l->ai P f [vW x,cap] (.d (dB (p x))))(nl:l.length<=1099511627776):ai P F.gK [.d (yE l),.fn f [cap]] (.d (dB (l.any p))):=by
 refine ai.intro fn.gK (by rfl) (by rfl) (au (by rfl)) λE hE=>(AW.sg hE rfl (ay rfl (OL.nil (AW.sg hE rfl (ah rfl (EL rfl (aY rfl vL (aS0 hf nl) ?_)))))))
 exact lG rfl rfl rfl (ay rfl (OL.nil (AW.ret (aH.r ⟨_,.tmp rfl .nil,.le (aZ.bool (Ja p l))⟩))))
theorem ad9 {q:Rat}(hz:sz q<=68719476736):ai P F.kX [vW q,JB] (.d (dB false)):=by
 refine ai.intro fn.kX (by rfl) (by rfl) (au (by rfl)) λE hE=>(AW.sg hE rfl (iC rfl rfl λb2=>(ay rfl (OL.nil (AW.sg hE rfl (iU ag.Ring rfl (vs:=[_,_]) rfl (au rfl) (aG ag.aA rfl rfl (vs:=[_,_,_,_,_,_,_,_]) rfl (au rfl) ?_)))))))
 exact aY rfl .dR (XJ hz) (nt rfl (ay rfl (OL.nil (AW.ret (aH.r ⟨_,.tmp rfl .nil,.le vR⟩)))))
theorem Vy {l:List Rat}(hz:∀ x,x ∈ l->sz x<=68719476736)(nl:l.length<=1099511627776):ai P F.qH [l7,.d (yE l)] (.d (dB true)):=by
 refine ai.intro fn.qH (by rfl) (by rfl) (au (by rfl)) λE hE=>(AW.sg hE rfl (iC rfl rfl λb2=>(ay rfl (OL.nil (AW.seq (AW.BV 2 [dI 1,.sl []] rfl (VCs.Uh [dI 1,.sl []]) (AW.to [(1,.d (yE l)),(2,JB),(4,.d (dB false))] [] (.cons vR (.cons (aI (show V.WO 2 b2 [dI 1,.sl []] (.ptr 2 b2 0)=JB from E5)) .bC)) .nil ?_)))))))
 refine AW.rg hE rfl (ah rfl (mkF (vs:=[_]) rfl (aY rfl vL (ad8 (l:=l) (f:=F.kX) (cap:=JB) (p:=λ_=>false) (λx hx=>ad9 (hz x hx)) nl) ?_)));rw[any_false λx _=>rfl];exact nt rfl (ay rfl (OL.nil (AW.ret (aH.r ⟨_,.tmp rfl .nil,.le vR⟩))))
theorem Vz {a:Au}{v:Nat}(hv:v<a.st):ai P F.qf [.d (dI v),rAu a] (.d (dB true)):=by
 refine ai.intro fn.qf (by rfl) (by rfl) (au (by rfl)) λE hE=>(AW.sg hE rfl (ay rfl (OL.nil (AW.sg hE rfl (ah rfl (lG rfl rfl (c:=true) (by exact decide_eq_true (by omega)) (ah rfl ?_)))))))
 refine OL.yes rfl (ah rfl (OL.yes rfl (faR fd.rD rfl rfl (OL.yes rfl (bP ce.int rfl (OL.yes rfl (aN rfl rfl (c:=true) (by exact decide_eq_true (by omega)) ?_)))))))
 exact iV rfl rfl (ay rfl (OL.nil (AW.ret (aH.r ⟨_,.tmp rfl .nil,.le vR⟩))))
theorem aF7 {a:Au}{x:aT}(hx:x.f<a.st/\x.t<a.st/\1<=x.l/\x.l<=a.sym)(hz:sz x.q<=68719476736):ai P F.sD [KG x,Gx a] (.d (dB true)):=by
 refine ai.intro fn.sD (by rfl) (by rfl) (au (by rfl)) λE hE=>(AW.sg hE rfl (iC rfl rfl λb2=>(iC rfl rfl λb3=>(ay rfl (OL.nil (AW.seq (AW.BV 3 [dI 1,.sl [],dI a.sym,dI a.st,yE a.ini,yE a.fin,oW a.aX] rfl (VCs.Uh [dI 1,.sl [],dI a.sym,dI a.st,yE a.ini,yE a.fin,oW a.aX]) ?_)))))))
 refine AW.to [(2,.ptr 2 b2 0),(3,rAu a),(4,.d (dB false))] [(2,.box b2 T.mD (gI x))] (.cons vR (.cons (aI (show V.WO 3 b3 [dI 1,.sl [],dI a.sym,dI a.st,yE a.ini,yE a.fin,oW a.aX] (.ptr 3 b3 0)=rAu a from E5)) .bC)) (.cons rfl .nil) ?_
 refine AW.rg hE rfl (mkF (vs:=[_]) rfl (asF rfl (OL.nil (AW.sg hE rfl (EL rfl (aF fd.LC rfl rfl (ak ce.int rfl rfl rfl ?_)))))));refine aY rfl vL (Vz (a:=a) (v:=x.f) hx.1) (ah rfl (OL.yes rfl (EL rfl (OL.yes rfl (aF fd.Ht rfl rfl (OL.yes rfl (ak ce.int rfl rfl rfl ?_)))))));refine OL.yes rfl (aY rfl vL (Vz (a:=a) (v:=x.t) hx.2.1) (iV rfl rfl (ah rfl (OL.yes rfl (aF fd.Fb rfl rfl (OL.yes rfl (ak ce.int rfl rfl rfl ?_)))))));refine OL.yes rfl (lG rfl rfl (c:=true) (by exact decide_eq_true (by omega)) (iV rfl rfl (ah rfl (OL.yes rfl (aF fd.Fb rfl rfl (OL.yes rfl (ak ce.int rfl rfl rfl ?_)))))))
 refine OL.yes rfl (faR fd.D6 rfl rfl (OL.yes rfl (bP ce.int rfl (OL.yes rfl (x8 rfl rfl (c:=true) (by exact decide_eq_true (by omega)) (iV rfl rfl (ah rfl ?_)))))))
 refine OL.yes rfl (faR fd.kU rfl rfl (OL.yes rfl (iU ag.Ring rfl (vs:=[_,_]) rfl (au rfl) (OL.yes rfl (aF fd.wz rfl rfl (OL.yes rfl (aG ag.aA rfl rfl (vs:=[_,_,_,_,_,_,_,_]) rfl (au rfl) ?_)))))));exact OL.yes rfl (aY rfl .dR (XJ hz) (iV rfl rfl (ay rfl (OL.nil (AW.ret (aH.r ⟨_,.tmp rfl .nil,.le vR⟩))))))
theorem aF8 {a:Au}{x:aT}(hx:x.f<a.st/\x.t<a.st/\1<=x.l/\x.l<=a.sym)(hz:sz x.q<=68719476736):ai P F.mZ [KG x,rAu a] (.d (dB false)):=by
 refine ai.intro fn.mZ (by rfl) (by rfl) (au (by rfl)) λE hE=>(AW.sg hE rfl (iC rfl rfl λb2=>(ay rfl (OL.nil (AW.sg hE rfl (aG ag.mD rfl rfl (vs:=[_,_,_,_,_,_,_,_,_,_,_]) rfl (au rfl) (iU ag.Auto rfl (vs:=[_,_,_,_,_,_,_]) rfl (au rfl) ?_)))))))
 exact aY rfl .dR (aF7 hx hz) (nt rfl (ay rfl (OL.nil (AW.ret (aH.r ⟨_,.tmp rfl .nil,.le vR⟩)))))
end Go.Proofs.YteiohkpjgcioaaaGreatDoor
namespace Go.AL
open Go Go.BigFrame
theorem OC {f:Nat->Rat}{C:Nat}:∀ {n:Nat},(∀ i,i<n->sz (f i)<=C)->sz (dw f n)<=n*(C+1)+1
 | 0,_=>by rw[dw,gJ];omega
 | n+1,h=>by
  have h1:=OC (f:=f) (C:=C) (n:=n) λi hi=>h i (by omega)
  have h2:=h n (by omega)
  have h3:=vz (dw f n) (f n);rw[dw,Nat.succ_mul];omega
structure pz.Sz (m:pz) (e:Nat):Prop where
 n6:m.n<=6
 k2:m.k<=4
 e1:1<=e
 e24:e<=24
 ini:∀ i,sz (m.ini.getD i 0)<=e
 fin:∀ i,sz (m.fin.getD i 0)<=e
 ent:∀ s i j,sz (SI m s i j)<=e
structure pz.Full (m:pz):Prop where
 rows:∀ s,s<m.k->(m.ac0.getD s []).length=m.n
 cols:∀ s,s<m.k->∀ i,i<m.n->((m.ac0.getD s []).getD i []).length=m.n
structure FM (n B:Nat) (rs:List kV):Prop where
 ech:Uc n rs
 sz:PO B rs
 len:∀ r,r ∈ rs->r.v.length=n
 cl:∀ (k:Nat) (r:kV),rs[k]? = some r->r.c.length=k+1
section
variable {n B:Nat}{rs:List kV}{w:List Rat}
theorem FM.nil:FM n B []:=⟨⟨λ_ h=>(by cases h),List.Pairwise.nil⟩,PO.nil,λ_ h=>(by cases h),λ_ _ h=>(by cases h)⟩
theorem FM.grow (h:FM n B rs)(hw:w.length=n)(h1:1<=B)(hz:∀ i,AL.sz (w.getD i 0)<=B)(g:qE rs w=true):FM n B (rs++[newR rs w]):=by
 have hp:Am (nK rs w)<(nK rs w).length:=jC g;refine⟨h.ech.grow hw _ (by rw[CB,hw] at hp;exact hp) (Ky hp),h.sz.grow h1 hz,λr hr=>?_,λk r hk=>?_⟩
 .rcases BO hr with hr|hr
  .exact h.len r hr
  .rw[qm hr];show (nK rs w).length=n;rw[CB,hw]
 .rcases Nat.lt_or_ge k rs.length with hi|hi
  .rw[List.getElem?_append_left hi] at hk;exact h.cl k r hk
  .rw[List.getElem?_append_right hi] at hk;rcases Nat.eq_zero_or_pos (k-rs.length) with h0|h0
   .rw[h0] at hk;cases hk
    show (byS rs w).length=k+1
    rw[aE4];omega
   .rw[List.getElem?_eq_none (by rw[nN];exact h0)] at hk;cases hk
theorem FM.add (h:FM n B rs)(hw:w.length=n)(h1:1<=B)(hz:∀ i,AL.sz (w.getD i 0)<=B):FM n B (Jo rs w):=by
 unfold Jo
 split
 .exact h.grow hw h1 hz ‹_›
 .exact h
theorem FM.le (h:FM n B rs):rs.length<=n:=h.ech.len
end
structure DSt where
 o:Option (List Int)
 rs:List kV
def keepD (m:pz)(w:List Int)(y:DSt):Bool × DSt :=
 if y.o.isSome=true then (false,y) else if U8 m w≠0 then (false,⟨some w,y.rs⟩) else (qE y.rs (iq m w),⟨none,Jo y.rs (iq m w)⟩)
def bj9 (m:pz)(Q:List (List Int))(y:DSt):Prop :=
 match y.o with
 | some w=>Ec m w/\w.length<=6
 | none=>∃ V K,Join m V K Q y.rs/\Hy m K/\Ed K Q
structure PW (m:pz) (B:Nat) (Q:List (List Int)) (y:DSt):Prop where
 len:∀ q,q ∈ Q->q.length<=6
 sp:FM m.n B y.rs
 ans:bj9 m Q y
def muD (m:pz)(Q:List (List Int))(y:DSt):Nat :=
 match y.o with
 | some _=>Q.length
 | none=>tY m Q y.rs
section
variable {m:pz}{B:Nat}{Q V K:List (List Int)}{w:List Int}{y:DSt}{rs:List kV}
theorem Ed.six (h:Ed K Q)(j:Join m V K Q rs)(n6:m.n<=6):∀ q,q ∈ Q->q.length<=6:=λq hq=>by
 have:=h.open_ q hq;have:=j.len;have:=j.le;omega
theorem PW.start (m:pz)(B:Nat):PW m B [[]] ⟨none,[]⟩:=
 ⟨λq hq=>by rw[qm hq];exact Nat.zero_le _,FM.nil,[],[],Join.start m,λ_ h=>(by cases h),Ed.start⟩
theorem PW.next (ok:m.Ok)(n6:m.n<=6)(h1:1<=B)(hz:∀ i,sz ((iq m w).getD i 0)<=B)(h:PW m B (w::Q) y) :
  ((keepD m w y).1=true->PW m B (Q++oV m.k w) (keepD m w y).2/\muD m (Q++oV m.k w) (keepD m w y).2<muD m (w::Q) y)/\((keepD m w y).1=false->PW m B Q (keepD m w y).2/\muD m Q (keepD m w y).2<muD m (w::Q) y):=by
 obtain⟨o,rs⟩:=y;have hlq:∀ q,q ∈ Q->q.length<=6:=λq hq=>h.len q (List.mem_cons_of_mem _ hq);cases o with
 | some u =>
  have e:keepD m w ⟨some u,rs⟩ = (false,⟨some u,rs⟩):=if_pos rfl;rw[e];exact⟨λx=>(by cases x),λ_=>⟨⟨hlq,h.sp,h.ans⟩,Nat.lt_succ_self _⟩⟩
 | none =>
  obtain⟨V,K,j,hzk,hl⟩:∃ V K,Join m V K (w::Q) rs/\Hy m K/\Ed K (w::Q):=h.ans;have hsp:FM m.n B rs:=h.sp;have hno:¬ ((⟨none,rs⟩:DSt).o.isSome=true):=λx=>by cases x
  by_cases hw:U8 m w≠0
  .have e:keepD m w ⟨none,rs⟩ = (false,⟨some w,rs⟩):=by unfold keepD;rw[if_neg hno,if_pos hw]
   rw[e];refine⟨λx=>(by cases x),λ_=>⟨⟨hlq,hsp,j.bfs.first hzk hw,h.len w yD⟩,?_⟩⟩
   show Q.length<tY m (w::Q) rs
   unfold tY;rw[List.length_cons];omega
  .have e:keepD m w ⟨none,rs⟩ = (qE rs (iq m w),⟨none,Jo rs (iq m w)⟩):=by unfold keepD;rw[if_neg hno,if_neg hw]
   rw[e];have hadd:=hsp.add (Ak ok w) h1 hz;have hw0:U8 m w=0:=Decidable.byContradiction hw;refine⟨λhg=>?_,λhg=>?_⟩
   .have hg:qE rs (iq m w)=true:=hg;show PW m B (Q++oV m.k w) ⟨none,Jo rs (iq m w)⟩ /\ tY m (Q++oV m.k w) (Jo rs (iq m w))<tY m (w::Q) rs
    rw[show Jo rs (iq m w)=rs++[newR rs (iq m w)] from if_pos hg] at hadd ⊢
    have j2:=j.keep ok hg;have hl2:Ed (K++[w]) (Q++oV m.k w):=hl.keep;exact⟨⟨hl2.six j2 n6,hadd,_,_,j2,hzk.add hw0,hl2⟩,KA ok j hg⟩
   .have hg:qE rs (iq m w)=false:=hg;show PW m B Q ⟨none,Jo rs (iq m w)⟩ /\ tY m Q (Jo rs (iq m w))<tY m (w::Q) rs
    rw[show Jo rs (iq m w)=rs from if_neg (by rw[hg];exact Bool.false_ne_true)] at hadd ⊢
    exact⟨⟨hlq,hsp,_,_,j.drop ok hg,hzk,hl.drop⟩,KC⟩
theorem PW.done (h:PW m B [] y):y.o=SS m:=by
 obtain⟨o,rs⟩:=y;cases o with
 | some u=>exact (Oc (o:=some u) h.ans.1).symm
 | none =>
  obtain⟨V,K,j,hzk,_⟩:∃ V K,Join m V K [] rs/\Hy m K/\Ed K []:=h.ans;exact (Oc (o:=none) λw hw=>j.bfs.none hzk w hw).symm
structure KSt where
 ks:List (List Int)
 rs:List kV
def BD (m:pz)(w:List Int)(y:KSt):Bool × KSt:=if qE y.rs (iq m w)=true then (true,⟨y.ks++[w],y.rs++[newR y.rs (iq m w)]⟩) else (false,y)
structure OD (m:pz) (B:Nat) (Q:List (List Int)) (y:KSt):Prop where
 sp:FM m.n B y.rs
 join:∃ V,Join m V y.ks Q y.rs
 len:Ed y.ks Q
theorem OD.start (m:pz)(B:Nat):OD m B [[]] ⟨[],[]⟩:=⟨FM.nil,⟨[],Join.start m⟩,Ed.start⟩
theorem OD.six {y:KSt}(h:OD m B Q y)(n6:m.n<=6):∀ q,q ∈ Q->q.length<=6:=have ⟨_,j⟩:=h.join;h.len.six j n6
theorem OD.few {y:KSt}(h:OD m B Q y):y.ks.length=y.rs.length/\y.ks.length<=m.n:=by
 obtain⟨V,j⟩:=h.join;have:=j.len;have:=j.le;omega
theorem OD.next {y:KSt}(ok:m.Ok)(h1:1<=B)(hz:∀ i,sz ((iq m w).getD i 0)<=B)(h:OD m B (w::Q) y) :
  ((BD m w y).1=true->OD m B (Q++oV m.k w) (BD m w y).2/\tY m (Q++oV m.k w) (BD m w y).2.rs<tY m (w::Q) y.rs)/\((BD m w y).1=false->OD m B Q (BD m w y).2/\tY m Q (BD m w y).2.rs<tY m (w::Q) y.rs):=by
 obtain⟨V,j⟩:=h.join;unfold BD;by_cases hg:qE y.rs (iq m w)=true
 .rw[if_pos hg];exact⟨λ_=>⟨⟨h.sp.grow (Ak ok w) h1 hz hg,⟨_,j.keep ok hg⟩,h.len.keep⟩,KA ok j hg⟩,λx=>by cases x⟩
 .rw[if_neg hg];have hg:qE y.rs (iq m w)=false:=by simpa using hg
  exact⟨λx=>(by cases x),λ_=>⟨⟨h.sp,⟨_,j.drop ok hg⟩,h.len.drop⟩,KC⟩⟩
end
structure VA (n:Nat) (C:List (List Rat)) (rs:List kV):Prop where
 rows:∀ r,r ∈ rs->fP n C (vf r.v)
 kept:∀ c,c ∈ C->fP n (Aj rs) (vf c)
section
variable {n B:Nat}{C:List (List Rat)}{rs:List kV}{w:List Rat}
theorem VA.nil:VA n [] []:=⟨λ_ h=>(by cases h),λ_ h=>(by cases h)⟩
theorem VA.add (j:VA n C rs)(e:Uc n rs)(hl:w.length=n):VA n (C++[w]) (Jo rs w):=by
 have hs:=Gp rs w;rw[hl] at hs;have hm:∀ {u:Nat->Rat},fP n C u->fP n (C++[w]) u:=λh=>h.mono λb hb=>List.mem_append.2 (.inl hb);have hC:∀ {u:Nat->Rat},fP n (Aj rs) u->fP n (C++[w]) u:=λh=>h.trans λb hb=>by
  obtain⟨r,hr,rfl⟩:=Az hb;exact hm (j.rows r hr)
 unfold Jo
 split
 .refine⟨λr hr=>?_,λu hu=>?_⟩
  .rcases BO hr with hr|hr
   .exact hm (j.rows r hr)
   .rw[qm hr];have h1:fP n (C++[w]) (vf w):=.mem (List.mem_append.2 (.inr (List.mem_singleton.2 rfl)));refine (h1.plus ((hC hs).smul (-1))).congr λi _=>?_;show (nK rs w).getD i 0=w.getD i 0 + -1*(w.getD i 0-(nK rs w).getD i 0)
    rw[Rat.neg_mul,Rat.one_mul,Rat.neg_sub,Rat.sub_eq_add_neg,Rat.add_comm (w.getD i 0),Rat.add_assoc,Rat.neg_add_cancel,Rat.add_zero]
  .rw[Qz];rcases BO hu with hu|hu
   .exact (j.kept u hu).mono λb hb=>List.mem_append.2 (.inl hb)
   .rw[qm hu];have h1:=hs.mono (C:=Aj rs++[nK rs w]) λb hb=>List.mem_append.2 (.inl hb);have h2:fP n (Aj rs++[nK rs w]) (vf (nK rs w)):=.mem (List.mem_append.2 (.inr (List.mem_singleton.2 rfl)));refine (h1.plus h2).congr λi _=>?_;show w.getD i 0=w.getD i 0-(nK rs w).getD i 0+(nK rs w).getD i 0
    rw[Rat.sub_add_cancel]
 .rename_i hg;refine⟨λr hr=>hm (j.rows r hr),λu hu=>?_⟩;rcases BO hu with hu|hu
  .exact j.kept u hu
  .rw[qm hu];exact (Kz e hl).1 (by simpa using hg)
end
section
variable {a b:Au}{B N e:Nat}
theorem JD {α:Type}{f:α->Rat}{C:Nat}:∀ {l:List α},(∀ x,x ∈ l->sz (f x)<=C)->sz (qC f l)<=l.length*(C+1)+1
 | [],_=>by rw[qC,gJ];simp
 | x::l,h=>by
  have h1:=JD (f:=f) (l:=l) λy hy=>h y (List.mem_cons_of_mem _ hy);have h2:=h x yD;have:=vz (f x) (qC f l);rw[qC,List.length_cons,Nat.succ_mul];omega
theorem aF9 {l:List aT}(h1:1<=B)(hz:∀ x,x ∈ l->sz x.q<=B)(s i j:Nat):sz (gV l s i j)<=l.length*(B+1)+1:=by
 refine JD λx hx=>?_
 split
 .exact hz x hx
 .rw[gJ];exact h1
structure Au.Few (a:Au):Prop where
 st:a.st<=6
 ini:Small 24 a.ini
 fin:Small 24 a.fin
 ent:∀ s i j,sz (gV a.aX s i j)<=24
theorem Au.Sz.few (h:a.Sz 1 10)(hs:a.st<=6):a.Few :=
 ⟨hs,λq hq=>Nat.le_trans (h.ini q hq) (by decide),λq hq=>Nat.le_trans (h.fin q hq) (by decide),λs i j=>by
  have h1:=aF9 (B:=1) (by decide) h.arc s i j
  have:=h.num;have:=Nat.mul_le_mul_right 2 this;omega⟩
end
end Go.AL
namespace Go.Proofs.YteiohkpjgcioaaaGreatDoor
open Go Go.AL
theorem take_snoc {α:Type}{l:List α}{i:Nat}(d:α)(hi:i<l.length):l.take (i+1)=l.take i++[l.getD i d]:=by
 rw[List.take_succ_eq_append_getElem hi,iZ,sU hi];rfl
def fM (a:Au):Au:={ a with aX:=Bz a.aX }
theorem Iq {a:Au}(h:a.Ok):∀ x,x ∈ (fM a).aX->1<=x.l:=gu.tidy (p:=λ_ l _=>1<=l) λx hx=>(h.arc x hx).2.2.1
theorem CS (l:List aT):(Bz l).length<=l.length:=by
 unfold Bz QC;refine Nat.le_trans (List.length_filter_le ..) ?_;have h:=JC (sortA l) (sortA l).length;unfold outA at h;rw[List.take_length] at h;have:(sortA l).length=l.length:=xh ..;omega
theorem aG0 {l:List aT}{f:Nat}{caps:List V}{p:aT->Bool}(hf:∀ x,x ∈ l->ai P f (KG x::caps) (.d (dB (p x))))(nl:l.length<=1099511627776):ai P F.gQ [.d (oW l),.fn f caps] (.d (dI (GZ p l))):=by
 refine ai.intro fn.gQ (by rfl) (by rfl) (au (by rfl)) λE hE=>(AW.sg hE rfl (ay rfl (OL.nil (AW.seq (AW.sg hE rfl (ah rfl (eH sl.cZ rfl rfl ?_)))))))
 refine ah rfl (OL.nil (AW.block ?_));refine AW.aK (α:=Nat) [(0,_),(1,_),(7,_)] [] (λi=>[(8,.d (dI i))]) (λi=>[]) (λi=>i<=l.length/\∀ j,j<i->p (l.getD j default)=false) (λi=>l.length-i) 0 (.cons (bM rfl) (.cons (EM rfl) (.cons (bM rfl) .nil))) .nil ⟨⟨Nat.zero_le _,λj hj=>by omega⟩,.bC,.nil⟩ ?_
 rintro i ⟨h1,h2⟩
 refine AW.sg hE rfl (aN rfl rfl rfl (OL.nil (AW.seq (AW.cond rfl (λh9=>?_) (λh9=>?_)))))
 .try simp only[bY] at h9
  refine AW.skip (AW.seq (AW.block (AW.sg hE rfl (ah rfl (ay rfl (OL.nil (AW.sg hE rfl ?_)))))));refine EL rfl (ah rfl (ah rfl (bg sl.cZ default rfl rfl (by omega) rfl rfl (iU ag.mD rfl (vs:=[_,_,_,_,_,_,_,_,_,_,_]) rfl (au rfl) (aY rfl (.cons vR vL) (hf (l.getD i default) (getD_mem (by omega) _)) (OL.nil (AW.cond rfl (λh16=>?_) (λh16=>?_))))))))
  .have h16:=h16;exact AW.sg hE rfl (ah rfl (ay rfl (OL.nil (AW.ret (aH.r ⟨_,.tmp rfl .nil,.le (aZ.int ((wX (by omega) default h16 h2).symm))⟩)))))
  .have h16:=h16;refine AW.skip (AW.rg hE rfl (aB rfl rfl (by omega) (ah rfl (OL.nil ?_))))
   exact AW.again (x:=i) (i+1) (by omega) ⟨⟨by omega,λj hj=>by rcases Nat.lt_or_ge j i with h|h;exact h2 j h;obtain rfl:j=i:=(by omega);exact h16⟩,Knows.app .wL .bC,.nil⟩
 .try simp only[bY] at h9
  exact AW.exit (AW.sg hE rfl (ay rfl (OL.nil (AW.ret (aH.r ⟨_,.tmp rfl .nil,.le (aZ.int ((zk default λj hj=>h2 j (by omega)).symm))⟩)))))
theorem OE {l:List aT}{f:Nat}{caps:List V}{p:aT->Bool}(hf:∀ x,x ∈ l->ai P f (KG x::caps) (.d (dB (p x))))(nl:l.length<=1099511627776):ai P F.jh [.d (oW l),.fn f caps] (.d (dB (l.any p))):=by
 refine ai.intro fn.jh (by rfl) (by rfl) (au (by rfl)) λE hE=>(AW.sg hE rfl (ay rfl (OL.nil (AW.sg hE rfl (ah rfl (EL rfl (aY rfl vL (aG0 hf nl) ?_)))))))
 exact lG rfl rfl rfl (ay rfl (OL.nil (AW.ret (aH.r ⟨_,.tmp rfl .nil,.le (aZ.bool (Ja p l))⟩))))
theorem aM1 {l:List Rat}(nl:l.length<=64)(hz:∀ x,x ∈ l->sz x<=134217728):ai P F.vP [l7,.d (yE l)] (.d (yE l)):=by
 refine ai.intro fn.vP (by rfl) (by rfl) (au (by rfl)) λE hE=>(AW.sg hE rfl (iC rfl rfl λb2=>(oq rfl (OL.nil (AW.sg hE rfl (oq rfl (OL.nil ?_)))))))
 refine AW.seq (AW.seq (AW.own 5 21 T.aA 8 rfl rfl (AW.rg hE rfl (ah rfl (eH sl.aS rfl rfl (ah rfl (OL.nil ?_)))))));refine AW.block ?_;refine AW.aK (α:=Nat × Nat × Nat) [(2,_),(4,_),(8,_),(9,_)] [(2,_)] (λ(i,bq,cq)=>[(5,.bJ 21 bq i cq),(10,.d (dI i))]) (λ(i,bq,cq)=>[(21,.row bq cq T.aA 8 ((l.take i).map dW))]) (λ(i,bq,cq)=>i<=l.length) (λ(i,bq,cq)=>l.length-i) (0,0,0) (.cons (fG rfl) (.cons (zi rfl) (.cons (bM rfl) (.cons (bM rfl) .nil)))) (.cons (iJ rfl) .nil) ⟨Nat.zero_le _,.dR,.cons rfl .nil⟩ ?_
 rintro⟨i,bq,cq⟩ h1
 have h1:i<=l.length:=h1;refine AW.sg hE rfl (aN rfl rfl rfl (OL.nil (AW.seq (AW.cond rfl (λh11=>?_) (λh11=>?_)))))
 .try simp only[bY] at h11
  refine AW.skip (AW.seq (AW.block (AW.seq ?_)));have hx:=hz (l.getD i 0) (getD_mem (by omega) 0)
  refine AW.rg hE rfl (bg sl.aS 0 rfl rfl (by omega) rfl rfl (iU ag.aA rfl (vs:=[_,_,_,_,_,_,_,_]) rfl (au rfl) (al z.aA rfl λb7=>(dA sz.aA rfl rfl rfl rfl rfl (au rfl) (cells2:=[_,_,_,_,_,_,_,_]) rfl (OL.nil (AW.dg 2 [0,1,2,3,4,5,6,7,8] aj hE rfl (by kernel_rfl) (OI.aP (os:=[_,_,_,_,_,_,_,_,_]) rfl ?_)))))))
  refine fQ rfl (aG ag.Ring rfl rfl (vs:=[_,_]) rfl (au rfl) (aG ag.aA rfl rfl (vs:=[_,_,_,_,_,_,_,_]) rfl (au rfl) (aG ag.Ring rfl rfl (vs:=[_,_]) rfl (au rfl) (aY rfl vL (QF) (aY rfl vL (QG (p:=(l.getD i 0)) (q:=0) (by omega) z0K) ?_)))))
  rw[Rat.add_zero];refine tC (y:=dW (l.getD i 0)) sl.aS G8 rfl (by decide) ?_
  refine yG sl.aS rfl rfl rfl (by rw[dF,List.length_take];omega) (VC.d _) (λy hy=>by rw[qm hy];rfl) (by simp;omega) (by simp;omega) (.inr rfl) (ys:=(l.take (i+1)).map dW) (by rw[take_snoc 0 (show i<l.length by omega),List.map_append];rfl) (n2:=i+1) rfl λb2 c2=>?_
  refine uj rfl (OL.nil (AW.rg hE rfl (aB rfl rfl (by omega) (ah rfl (OL.nil ?_)))))
  exact AW.again (x:=(i,bq,cq)) (i+1,b2,c2) (by (simp only[];omega)) ⟨by omega,Knows.app .CZ .dR,bn.app (.cons rfl .nil) (.cons rfl .nil)⟩
 .try simp only[bY] at h11
  refine AW.exit (AW.seq ?_);obtain rfl:i=l.length:=by omega
  refine AW.freeze 21 rfl (AW.to [(5,.d (yE l))] [] (.cons (dP (by rw[dF,List.length_take,Nat.min_self]) (by rw[List.take_length])) .nil) .nil ?_)
  exact AW.rg hE rfl (ah rfl (ay rfl (OL.nil (AW.ret (aH.r ⟨_,.tmp rfl .nil,.le vR⟩)))))
theorem ba1  : ai P F.vO [l7] (l7):=by
 refine ai.intro fn.vO (by rfl) (by rfl) (au (by rfl)) λE hE=>(AW.sg hE rfl (iC rfl rfl λb1=>(al z.Ring rfl λb2=>(OL.nil (AW.seq (AW.dg 1 [0,1,2,3,4,5,6] aj hE rfl (by kernel_rfl) (OI.aP (os:=[_,_,_,_,_,_,_]) rfl ?_)))))))
 refine aF fd.nX rfl rfl (ak ce.int rfl rfl rfl (aF fd.J5 rfl rfl (ak ce.ints rfl rfl rfl (aY rfl vL (XL (l:=[]) (by decide)) (bd z.Ring pl.Ring (cs:=[_,_]) rfl (dA sz.Ring rfl rfl rfl rfl rfl (au rfl) (cells2:=[_,_]) rfl (OL.nil ?_)))))))
 exact AW.ret (aH.r ⟨_,.dD rfl rfl ag.Ring (au rfl) .nil,.ag (.cons (.le vR) (.cons (.le vR) .nil))⟩)
theorem aG1 {x:aT}(hx:1<=x.l):ai P F.tN [KG x] (.d (dB false)):=by
 refine ai.intro fn.tN (by rfl) (by rfl) (au (by rfl)) λE hE=>(AW.sg hE rfl (iC rfl rfl λb1=>(ay rfl (OL.nil (AW.sg hE rfl (aF fd.Fb rfl rfl (ak ce.int rfl rfl rfl ?_)))))))
 exact dm rfl rfl (c:=false) (by exact decide_eq_false (by omega)) (ay rfl (OL.nil (AW.ret (aH.r ⟨_,.tmp rfl .nil,.le vR⟩))))

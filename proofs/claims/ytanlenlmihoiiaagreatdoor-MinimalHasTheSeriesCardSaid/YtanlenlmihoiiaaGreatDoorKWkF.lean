/-
  Walks of package automaton, part 4: arcs in normal form (printed by mk2.py).
-/
import Derived.Test.YtanlenlmihoiiaaGreatDoorKAlg38
set_option linter.unusedVariables false
set_option linter.unusedSimpArgs false
namespace Go.Proofs.YtanlenlmihoiiaaGreatDoor
open Go Go.AL
abbrev Jw:V:=.ref [dI 1,.sl []]
theorem ay4:VCs [.d (dI 0),.d (dI 0),.d (dI 0),.d (dB false),.mt,.mt,.d (dI 0),.d (dB false),.d (dU 0),.mt,.mt] (jv default).cells:=by
 show VCs _ [dI 0,dI 0,dI 0,dB (iD 0).neg,aI (iD 0).num,aI (iD 0).den,dI 0,dB false,dU 0,.sl [],.sl []]
 rw[rG];exact .cons (VC.d _) (.cons (VC.d _) (.cons (VC.d _) (.cons (VC.d _) (.cons VC.mt (.cons VC.mt (.cons (VC.d _) (.cons (VC.d _) (.cons (VC.d _) (.cons VC.mt (.cons VC.mt .nil))))))))))
theorem bd5 {x:bM}(hz:sz x.q<=68719476736):ai P F.o7 [KE x,Jw] (.d (dB (decide (x.q=0)))):=by
 refine ai.intro fn.o7 (by rfl) (by rfl) (au (by rfl)) λE hE=>(AW.sg hE rfl (iG rfl rfl λb2=>(aG rfl (OL.nil (AW.sg hE rfl (iR ag.Ring rfl (vs:=[_,_]) rfl (au rfl) (aV fd.qG rfl rfl ?_)))))))
 exact aQ ag.ay rfl rfl (vs:=[_,_,_,_,_,_,_,_]) rfl (au rfl) (bP rfl .jm (aP4 hz) (aG rfl (OL.nil (AW.ret (aT.r ⟨_,.tmp rfl .nil,.le vR⟩)))))
theorem aP8 {l:List bM}{f:Nat}{cap:V}{p:bM->Bool}(hf:∀ x,x ∈ l->ai P f [KE x,cap] (.d (dB (p x)))){n b c:Nat}(hl:l.length=n)(nl:n<=1099511627776):fQ P F.gZ [.bK 1000 b n c,.fn f [cap]] (mem1 1000 (rowA b c l)) (.d (dI (Je p l))) (mem1 1000 (rowA b c l)):=by
 refine fQ.intro fn.gZ (by rfl) (by rfl) (au (by rfl)) λE hE=>(AW.sg hE rfl (aG rfl (OL.nil (AW.seq (AW.sg hE rfl (jl rfl (Qx sl.bZ rfl rfl ?_)))))))
 refine aj rfl (OL.nil (AW.block ?_));refine AW.aX (α:=Nat) [(0,_),(1,_),(7,_)] [] (λi=>[(8,.d (dI i))]) (λi=>[(1000,rowA b c l)]) (λi=>i<=l.length/\∀ j,j<i->p (l.getD j default)=false) (λi=>l.length-i) 0 (.cons (BH rfl) (.cons (N7 rfl) (.cons (dA rfl) .nil))) .nil ⟨⟨Nat.zero_le _,λj hj=>by omega⟩,.dw,.cons rfl .nil⟩ ?_
 rintro i ⟨h1,h2⟩
 refine AW.sg hE rfl (bD rfl rfl rfl (OL.nil (AW.seq (AW.cond rfl (λh9=>?_) (λh9=>?_)))))
 .try simp only[fG] at h9
  refine AW.skip (AW.seq (AW.block (AW.sg hE rfl (aj rfl (aG rfl (OL.nil (AW.sg hE rfl ?_)))))));refine Qv rfl (jl rfl (aj rfl (je sl.bZ rfl rfl (by omega) (GZ ag.mQ (by decide) rfl rfl (qZ (show i<l.length by omega)) (vs:=pR (l.getD i default)) rfl (au rfl) (bP rfl .jm (hf (l.getD i default) (getD_mem (by omega) _)) (OL.nil (AW.cond rfl (λh16=>?_) (λh16=>?_))))))))
  .have h16:=h16;exact AW.sg hE rfl (aj rfl (aG rfl (OL.nil (AW.ret ⟨⟨_,.tmp rfl .nil,.le (bV.int ((Dy (by omega) default h16 h2).symm))⟩,fF rfl⟩))))
  .have h16:=h16;refine AW.skip (AW.rg hE rfl (aJ rfl rfl (by omega) (aj rfl (OL.nil ?_))))
   exact AW.again (x:=i) (i+1) (by omega) ⟨⟨by omega,λj hj=>by rcases Nat.lt_or_ge j i with h|h;exact h2 j h;obtain rfl:j=i:=(by omega);exact h16⟩,Knows.app .yI .dw,.cons rfl .nil⟩
 .try simp only[fG] at h9
  exact AW.exit (AW.sg hE rfl (aG rfl (OL.nil (AW.ret ⟨⟨_,.tmp rfl .nil,.le (bV.int ((Gf default λj hj=>h2 j (by omega)).symm))⟩,fF rfl⟩))))
theorem ay5 {p:bM->Bool}{l:List bM}{j:Nat}(hj:j<l.length):(l.take (j+1)).filter (λx=>!p x)=(l.take j).filter (λx=>!p x)++if p (l.getD j default)=true then [] else [l.getD j default]:=by
 rw[List.take_add_one,List.filter_append,iO,lF hj];simp only[Option.toList_some,Option.getD_some,List.filter_cons,List.filter_nil];cases p l[j] <;> rfl
theorem ay6 {u:List bM}{i:Nat}{x:bM}(h:i<u.length):(u.set i x).take (i+1)=u.take i++[x]:=by
 rw[List.take_add_one,List.take_set_of_le (Nat.le_refl _),List.getElem?_set_self h];rfl
theorem Q8 {p:bM->Bool}{l:List bM}{j:Nat}(hj:j<=l.length)(h:∀ k,k<j->p (l.getD k default)=false):(l.take j).filter (λx=>!p x)=l.take j:=by
 refine List.filter_eq_self.2 λx hx=>?_;obtain⟨k,hk,e⟩:=List.mem_iff_getElem.1 hx;rw[List.length_take] at hk;rw[List.getElem_take] at e;have:=h k (by omega)
 rw[iO,lF (by omega),Option.getD_some,e] at this
 rw[this];rfl
theorem aa0 {p:bM->Bool}{l:List bM}:(Je p l = -1/\∀ k,k<l.length->p (l.getD k default)=false) \/ ∃ i:Nat,Je p l=(i:Int)/\i<l.length/\p (l.getD i default)=true/\∀ k,k<i->p (l.getD k default)=false:=by
 by_cases h:∃ i,i<l.length/\p (l.getD i default)=true
 .obtain⟨i,⟨h1,h2⟩,h3⟩:=VI (p:=λi=>i<l.length/\p (l.getD i default)=true) _ h.choose_spec;have hk:∀ k,k<i->p (l.getD k default)=false:=λk hk=>Bool.eq_false_iff.2 λe=>by have:=h3 k ⟨by omega,e⟩;omega
  exact .inr ⟨i,Dy h1 default h2 hk,h1,h2,hk⟩
 .have hk:∀ k,k<l.length->p (l.getD k default)=false:=λk hk=>Bool.eq_false_iff.2 λe=>h ⟨k,hk,e⟩;exact .inl ⟨Gf default hk,hk⟩
set_option maxHeartbeats 800000 in
theorem aP9 {l:List bM}{n f:Nat}{cap:V}{p:bM->Bool}(hf:∀ x,x ∈ l->ai P f [KE x,cap] (.d (dB (p x))))(hl:l.length=n)(nl:n<=134217728):Ob P F.jP (λs=>[s,.fn f [cap]]) n T.mQ 11 (l.map jv) (l.filter (λx=>!p x)).length ((l.filter (λx=>!p x)).map jv):=by
 refine Ob.intro fn.jP (by rfl) (by rfl) (λ_=>Nat.le_of_ble_eq_true (by rfl)) 4 rfl λE b c hE=>(AW.rename 0 1000 rfl (AW.to [(0,.bK 1000 b n c),(1,.fn f [cap])] [(1000,rowA b c l)] (.cons bV.bK .dw) (.cons rfl .nil) (AW.sg hE rfl (nI rfl (OL.nil (AW.sg hE rfl (jl rfl ?_)))))))
 refine Qv rfl (OL.IY (v:=.d (dI (Je p l))) (.mk (args':=[.bK 1000 b n c,.fn f [cap]]) rfl (.cons bV.bK .dw) (fF (id:=1000) (blk:=rowA b c l) rfl) yg (aP8 hf hl (by omega))) (aG rfl (OL.nil (AW.seq (AW.sg hE rfl (aj rfl (fE rfl rfl rfl ?_)))))))
 refine OL.nil (AW.cond rfl (λh12=>?_) (λh12=>?_))
 .have h12:Je p l = -1:=mX h12;have e0:l.filter (λx=>!p x)=l:=by have:=Q8 (p:=p) (Nat.le_refl l.length) (aa0.resolve_right (λ⟨i,e,_⟩=>by omega)).2;rwa [List.take_length] at this
  rw[e0,hl];exact AW.sg hE rfl (jl rfl (uf rfl (OL.nil (AW.ret ⟨.inr rfl,1000,b,c,l.map jv,rfl,rfl,by rw[dL];omega,by rw[List.take_of_length_le (by rw[dL];omega)]⟩))))
 .have h12:Je p l ≠ -1:=oN h12;obtain⟨i0,g1,g2,g3,g4⟩:=aa0.resolve_left (λe=>h12 e.1);rw[g1];refine AW.skip (AW.seq (AW.sg hE rfl (aj rfl (aJ rfl rfl (by omega) (aG rfl (OL.nil (AW.block ?_)))))))
  refine AW.aX (α:=Nat × Nat × List bM) [(0,_),(1,_),(4,_)] [] (λ(i,j,u)=>[(5,.d (dI i)),(6,.d (dI j))]) (λ(i,j,u)=>[(1000,rowA b c u)]) (λ(i,j,u)=>i<j/\j<=n/\u.length=n/\u.take i=(l.take j).filter (λx=>!p x)/\∀ k,j<=k->u.getD k default=l.getD k default) (λ(i,j,u)=>n-j) (i0,i0+1,l) (.cons (BH rfl) (.cons (N7 rfl) (.cons (BO rfl) .nil))) .nil ⟨⟨by omega,by omega,hl,by rw[ay5 (by omega),Q8 (by omega) g4,if_pos g3,List.append_nil],λk _=>rfl⟩,.jm,.cons rfl .nil⟩ ?_
  rintro⟨i,j,u⟩ ⟨h1,h2,h3,h4,h5⟩
  have h1:i<j:=h1;have h2:j<=n:=h2;have h3:u.length=n:=h3;refine AW.seq (AW.sg hE rfl (aj rfl (jl rfl (Qx sl.bZ rfl rfl (bD rfl rfl rfl (OL.nil (AW.cond rfl (λh19=>?_) (λh19=>?_))))))))
  .try simp only[fG] at h19
   refine AW.skip (AW.seq (AW.block (AW.sg hE rfl (jl rfl (aj rfl (je sl.bZ rfl rfl (by omega) (GZ ag.mQ (by decide) rfl rfl (qZ (show j<u.length by omega)) (vs:=pR (u.getD j default)) rfl (au rfl) ?_)))))))
   rw[h5 j (Nat.le_refl _)];refine al z.mQ rfl λb7=>(eG sz.mQ rfl rfl rfl rfl rfl (au rfl) (cells2:=[_,_,_,_,_,_,_,_,_,_,_]) rfl (OL.nil (AW.sg hE rfl (Qv rfl (aQ ag.mQ rfl rfl (vs:=[_,_,_,_,_,_,_,_,_,_,_]) rfl (au rfl) (bP rfl .jm (hf (l.getD j default) (getD_mem (by omega) _)) (nt rfl ?_)))))))
   refine OL.nil (AW.cond rfl (λhp=>?_) (λhp=>?_))
   .have hp:p (l.getD j default)=false:=by simpa using hp
    refine AW.sg hE rfl (jl rfl (aj rfl (aQ ag.mQ rfl rfl (vs:=[_,_,_,_,_,_,_,_,_,_,_]) rfl (au rfl) (je sl.bZ rfl rfl (by omega) (J4 sz.mQ rfl (d:=jv (l.getD j default)) wO rfl rfl (by rw[dL];omega) (es2:=(u.set i (l.getD j default)).map jv) (by rw[List.map_set]) (OL.nil (AW.rg hE rfl ?_)))))))
    refine aj rfl (aJ rfl rfl (by omega) (aG rfl (OL.nil (AW.rg hE rfl (aj rfl (aJ rfl rfl (by omega) (aG rfl ?_)))))))
    refine OL.nil ?_;exact AW.again (x:=(i,j,u)) (i+1,j+1,u.set i (l.getD j default)) (by (simp only[];omega)) ⟨⟨by omega,by omega,by rw[List.length_set];exact h3,by rw[ay5 (by omega),<- h4,if_neg (by rw[hp];decide)];exact ay6 (by omega),λk hk=>by rw[KA (by omega),if_neg (by omega)];exact h5 k (by omega)⟩,Knows.app .yI .jm,.cons rfl .nil⟩
   .have hp:p (l.getD j default)=true:=by simpa using hp
    refine AW.skip (AW.rg hE rfl (aj rfl (aJ rfl rfl (by omega) (aG rfl (OL.nil ?_)))))
    exact AW.again (x:=(i,j,u)) (i,j+1,u) (by (simp only[];omega)) ⟨⟨by omega,by omega,h3,by rw[ay5 (by omega),if_pos hp,List.append_nil];exact h4,λk hk=>h5 k (by omega)⟩,Knows.app .yI .jm,.cons rfl .nil⟩
  .try simp only[fG] at h19
   refine AW.exit (AW.seq ?_);obtain rfl:j=n:=by omega
   have hf0:l.filter (λx=>!p x)=u.take i:=by rw[h4,List.take_of_length_le (by omega)]
   have hti:(u.take i).length=i:=by rw[List.length_take];omega
   rw[hf0,hti];refine AW.ZI (by rw[hE];rfl) (SL.jK (jl rfl (OL.nil ?_)))
   refine SL.jK (aj rfl (OL.nil ?_));refine SL.jK (slB (l:=i) (n2:=j-i) sl.bZ rfl rfl (by omega) rfl (OL.nil ?_))
   refine SL.G6 rfl (SO.bd4 (z:=jv default) trivial sl.bZ z.mQ ay4 rfl rfl (by rw[dL];omega) ?_)
   refine AW.sg hE rfl (jl rfl (aj rfl (slO (h:=i) sl.bZ rfl rfl (by omega) (uf rfl (OL.nil ?_)))))
   exact AW.ret ⟨.inr rfl,1000,b,c,_,rfl,rfl,by rw[jd,List.length_take,dL,List.length_replicate];omega,by rw[List.take_append_of_le_length (by rw[List.length_take,dL];omega),List.take_take,Nat.min_self,List.map_take]⟩
def ai1 (k:Nat)(l:List bM):Prop:=∀ x,x ∈ l->sz x.q<=(k+1)*134217730
theorem ai2 {k:Nat}{out:List bM}{x:bM}(h:ai1 k out)(hx:sz x.q<=134217728):ai1 (k+1) (jg out x):=by
 have up:∀ y,sz y<=(k+1)*134217730->sz y<=(k+1+1)*134217730:=λy hy=>Nat.le_trans hy (Nat.mul_le_mul_right _ (Nat.le_succ _));intro y hy;unfold jg at hy
 split at hy
 .rename_i hc;rcases List.mem_or_eq_of_mem_set hy with hy|rfl
  .exact up _ (h y hy)
  .have h1:=h _ (getD_mem (show out.length-1<out.length by omega) default)
   have h2:=zQ (out.getD (out.length-1) default).q x.q;show sz ((out.getD (out.length-1) default).q+x.q)<=_
   omega
 .rcases ru hy with hy|hy
  .exact up _ (h y hy)
  .rw[lV hy];omega
theorem ai3 {l:List bM}{i:Nat}(hi:i<l.length):(l.take (i+1)).foldl jg []=jg ((l.take i).foldl jg []) (l.getD i default):=by
 rw[List.take_add_one,List.foldl_append,lF hi,iO,lF hi];rfl
theorem Yh (out:List bM)(x:bM):(jg out x).length<=out.length+1:=by
 unfold jg
 split
 .rw[List.length_set];omega
 .rw[jd];exact Nat.le_refl _
theorem aQ0 {l:List bM}(nl:l.length<=134217728):qf P F.nN [.d (iL l)] l.length T.mQ 11 (l.map jv):=by
 refine qf.intro fn.nN (by rfl) (by rfl) (au (by rfl)) 2 rfl λE hE=>(AW.sg hE rfl (nI rfl (OL.nil (AW.seq (AW.sg hE rfl (aj rfl (isNil sl.bZ.u rfl (λy hy=>by obtain⟨a,_,rfl⟩:=jH hy;exact Nat.succ_pos _) rfl λb hb=>?_)))))))
 refine OL.nil (AW.cond rfl (λh=>?_) (λh=>?_))
 .have hL:l=[]:=by have:=hb h;simpa using this
  subst hL;exact AW.sg hE rfl (nI rfl (OL.nil (AW.own 2 99 T.mQ 11 rfl rfl (AW.ret ⟨.inr rfl,99,0,0,[],rfl,rfl,Nat.le_refl _,rfl⟩))))
 .have _h:=h;exact AW.skip (AW.sg hE rfl (lt0 sl.bZ (aj rfl (apM sl.bZ rfl rfl (VC.d _) FN (by simp;omega) (by simp;omega) rfl λb7 c7=>(uf rfl (OL.nil (AW.ret ⟨.inr rfl,7,b7,c7,l.map jv,by show V.bK 7 b7 (List.map jv l).length c7=_;rw[dL],rfl,by rw[dL];exact Nat.le_refl _,List.take_of_length_le (by rw[dL];exact Nat.le_refl _)⟩)))))))
theorem ay7 {b c:Nat}:fQ P F.gY [.bK 1000 b 0 c,.d (dI 0),.fn F.dJ []] (mem1 1000 (rowA b c [])) (.oM []) (mem1 1000 (rowA b c [])):=by
 refine fQ.intro fn.gY (by rfl) (by rfl) (au (by rfl)) λE hE=>(AW.sg hE rfl (aG rfl (OL.nil (AW.sg hE rfl (aj rfl (aG rfl (aG rfl ?_)))))))
 refine OL.nil (AW.seq (AW.block ?_));refine AW.aX (α:=Unit) [(0,_),(1,_),(2,_),(6,_)] [] (λ_u=>[(7,.d (dI 0)),(8,.d (dI 20))]) (λ_u=>[(1000,rowA b c [])]) (λ_u=>True) (λ_u=>0) () (.cons (BH rfl) (.cons (dA rfl) (.cons (N7 rfl) (.cons (dA rfl) .nil)))) .nil ⟨trivial,.jm,.cons rfl .nil⟩ ?_
 rintro⟨⟩ -
 refine AW.seq (AW.sg hE rfl (aj rfl (aj rfl (Aw rfl rfl rfl (OL.nil (AW.cond rfl (λhno=>absurd hno (by simp)) (λ_=>?_)))))))
 refine AW.exit (AW.sg hE rfl (jl rfl (aj rfl (aj rfl (Qv rfl ?_)))));refine OL.IY (v:=.oM []) (.mk (args':=[.bK 1000 b 0 c,.d (dI 0),.d (dI 0),.fn F.dJ []]) rfl (.cons vR (.cons vR (.cons vR (.cons vR (.nil))))) (fF (id:=1000) (blk:=rowA b c []) rfl) yg (VR (n:=0) (by decide))) ?_
 refine OL.nil (AW.block ?_);refine AW.aX (α:=Unit) [(0,_),(1,_),(2,_)] [] (λ_u=>[(6,.d (dI 20))]) (λ_u=>[(1000,rowA b c [])]) (λ_u=>True) (λ_u=>0) () (.cons (BH rfl) (.cons (dA rfl) (.cons (N7 rfl) .nil))) .nil ⟨trivial,.dw,.cons rfl .nil⟩ ?_
 rintro⟨⟩ -
 refine AW.seq (AW.sg hE rfl (aj rfl (aj rfl (bD rfl rfl rfl (OL.nil (AW.cond rfl (λhno=>absurd hno (by simp)) (λ_=>?_)))))))
 exact AW.exit (⟨⟨_,.nil,_,.nil,rfl⟩,fF rfl⟩)
theorem TW {b c:Nat}:fQ P F.dR [.bK 1000 b 0 c,.fn F.dJ []] (mem1 1000 (rowA b c [])) (.oM []) (mem1 1000 (rowA b c [])):=by
 refine fQ.intro fn.dR (by rfl) (by rfl) (au (by rfl)) λE hE=>(AW.rg hE rfl (jl rfl (jl rfl (Qx sl.bZ rfl rfl (Qv rfl (OL.IY (v:=.oM []) (.mk (args':=[.bK 1000 b 0 c,.d (dI 0),.fn F.dJ []]) rfl (.cons vR (.cons vR (.cons vR (.nil)))) (fF (id:=1000) (blk:=rowA b c []) rfl) yg (ay7)) (OL.nil ?_)))))))
 exact⟨⟨_,.nil,_,.nil,rfl⟩,fF rfl⟩
theorem VT {l:List bM}{b n c:Nat}(hl:l.length=n)(hn:n<=20):fQ P F.dR [.bK 1000 b n c,.fn F.dJ []] (mem1 1000 (rowA b c l)) (.oM []) (mem1 1000 (rowA b c (sortA l))):=by
 rcases Nat.eq_zero_or_pos n with h0|h0
 .subst h0;rw[EQ hl];exact TW
 .have h:=VS (b:=b) (c:=c) hl ⟨h0,hn⟩;subst hl;exact h

/-
  Walks of package automaton, part 4: arcs in normal form (printed by mk2.py).
-/
import Derived.Test.YtnjoncgnjdkaoaaGreatDoorKAlg38
set_option linter.unusedVariables false
set_option linter.unusedSimpArgs false
namespace Go.Proofs.YtnjoncgnjdkaoaaGreatDoor
open Go Go.AL
abbrev Hw:V:=.ref [dI 1,.sl []]
theorem aj0:VCs [.d (dI 0),.d (dI 0),.d (dI 0),.d (dB false),.mt,.mt,.d (dI 0),.d (dB false),.d (dU 0),.mt,.mt] (je default).cells:=by
 show VCs _ [dI 0,dI 0,dI 0,dB (fP 0).neg,aF (fP 0).num,aF (fP 0).den,dI 0,dB false,dU 0,.sl [],.sl []]
 rw[rX];exact .cons (VC.d _) (.cons (VC.d _) (.cons (VC.d _) (.cons (VC.d _) (.cons VC.mt (.cons VC.mt (.cons (VC.d _) (.cons (VC.d _) (.cons (VC.d _) (.cons VC.mt (.cons VC.mt .nil))))))))))
theorem aN3 {x:bD}(hz:sz x.q<=68719476736):aj P F.oh [Hu x,Hw] (.d (dB (decide (x.q=0)))):=by
 refine aj.intro fn.oh (by rfl) (by rfl) (aA (by rfl)) λE hE=>(AW.sg hE rfl (gW rfl rfl λb2=>(aC rfl (OL.nil (AW.sg hE rfl (jS ag.Ring rfl (vs:=[_,_]) rfl (aA rfl) (aV fd.sF rfl rfl ?_)))))))
 exact aN ag.ak rfl rfl (vs:=[_,_,_,_,_,_,_,_]) rfl (aA rfl) (bF rfl .gy (az7 hz) (aC rfl (OL.nil (AW.ret (aO.r ⟨_,.tmp rfl .nil,.le vR⟩)))))
theorem az9 {l:List bD}{f:Nat}{cap:V}{p:bD->Bool}(hf:∀ x,x ∈ l->aj P f [Hu x,cap] (.d (dB (p x)))){n b c:Nat}(hl:l.length=n)(nl:n<=1099511627776):eF P F.fZ [.bH 1000 b n c,.fn f [cap]] (mem1 1000 (rowA b c l)) (.d (dI (GZ p l))) (mem1 1000 (rowA b c l)):=by
 refine eF.intro fn.fZ (by rfl) (by rfl) (aA (by rfl)) λE hE=>(AW.sg hE rfl (aC rfl (OL.nil (AW.seq (AW.sg hE rfl (gU rfl (Iy sl.dm rfl rfl ?_)))))))
 refine ai rfl (OL.nil (AW.block ?_));refine AW.aU (α:=Nat) [(0,_),(1,_),(7,_)] [] (λi=>[(8,.d (dI i))]) (λi=>[(1000,rowA b c l)]) (λi=>i<=l.length/\∀ j,j<i->p (l.getD j default)=false) (λi=>l.length-i) 0 (.cons (yO rfl) (.cons (OO rfl) (.cons (bY rfl) .nil))) .nil ⟨⟨Nat.zero_le _,λj hj=>by omega⟩,.di,.cons rfl .nil⟩ ?_
 rintro i ⟨h1,h2⟩
 refine AW.sg hE rfl (aX rfl rfl rfl (OL.nil (AW.seq (AW.cond rfl (λh9=>?_) (λh9=>?_)))))
 .try simp only[eG] at h9
  refine AW.skip (AW.seq (AW.block (AW.sg hE rfl (ai rfl (aC rfl (OL.nil (AW.sg hE rfl ?_)))))));refine NY rfl (gU rfl (ai rfl (jk sl.dm rfl rfl (by omega) (FW ag.ny (by decide) rfl rfl (nT (show i<l.length by omega)) (vs:=lC (l.getD i default)) rfl (aA rfl) (bF rfl .gy (hf (l.getD i default) (getD_mem (by omega) _)) (OL.nil (AW.cond rfl (λh16=>?_) (λh16=>?_))))))))
  .have h16:=h16;exact AW.sg hE rfl (ai rfl (aC rfl (OL.nil (AW.ret ⟨⟨_,.tmp rfl .nil,.le (bG.int ((BZ (by omega) default h16 h2).symm))⟩,bP rfl⟩))))
  .have h16:=h16;refine AW.skip (AW.rg hE rfl (aH rfl rfl (by omega) (ai rfl (OL.nil ?_))))
   exact AW.again (x:=i) (i+1) (by omega) ⟨⟨by omega,λj hj=>by rcases Nat.lt_or_ge j i with h|h;exact h2 j h;obtain rfl:j=i:=(by omega);exact h16⟩,Knows.app .xf .di,.cons rfl .nil⟩
 .try simp only[eG] at h9
  exact AW.exit (AW.sg hE rfl (aC rfl (OL.nil (AW.ret ⟨⟨_,.tmp rfl .nil,.le (bG.int ((EG default λj hj=>h2 j (by omega)).symm))⟩,bP rfl⟩))))
theorem aj1 {p:bD->Bool}{l:List bD}{j:Nat}(hj:j<l.length):(l.take (j+1)).filter (λx=>!p x)=(l.take j).filter (λx=>!p x)++if p (l.getD j default)=true then [] else [l.getD j default]:=by
 rw[List.take_add_one,List.filter_append,gI,kL hj];simp only[Option.toList_some,Option.getD_some,List.filter_cons,List.filter_nil];cases p l[j] <;> rfl
theorem aj2 {u:List bD}{i:Nat}{x:bD}(h:i<u.length):(u.set i x).take (i+1)=u.take i++[x]:=by
 rw[List.take_add_one,List.take_set_of_le (Nat.le_refl _),List.getElem?_set_self h];rfl
theorem Pz {p:bD->Bool}{l:List bD}{j:Nat}(hj:j<=l.length)(h:∀ k,k<j->p (l.getD k default)=false):(l.take j).filter (λx=>!p x)=l.take j:=by
 refine List.filter_eq_self.2 λx hx=>?_;obtain⟨k,hk,e⟩:=List.mem_iff_getElem.1 hx;rw[List.length_take] at hk;rw[List.getElem_take] at e;have:=h k (by omega)
 rw[gI,kL (by omega),Option.getD_some,e] at this
 rw[this];rfl
theorem XZ {p:bD->Bool}{l:List bD}:(GZ p l = -1/\∀ k,k<l.length->p (l.getD k default)=false) \/ ∃ i:Nat,GZ p l=(i:Int)/\i<l.length/\p (l.getD i default)=true/\∀ k,k<i->p (l.getD k default)=false:=by
 by_cases h:∃ i,i<l.length/\p (l.getD i default)=true
 .obtain⟨i,⟨h1,h2⟩,h3⟩:=Ua (p:=λi=>i<l.length/\p (l.getD i default)=true) _ h.choose_spec;have hk:∀ k,k<i->p (l.getD k default)=false:=λk hk=>Bool.eq_false_iff.2 λe=>by have:=h3 k ⟨by omega,e⟩;omega
  exact .inr ⟨i,BZ h1 default h2 hk,h1,h2,hk⟩
 .have hk:∀ k,k<l.length->p (l.getD k default)=false:=λk hk=>Bool.eq_false_iff.2 λe=>h ⟨k,hk,e⟩;exact .inl ⟨EG default hk,hk⟩
set_option maxHeartbeats 800000 in
theorem aA0 {l:List bD}{n f:Nat}{cap:V}{p:bD->Bool}(hf:∀ x,x ∈ l->aj P f [Hu x,cap] (.d (dB (p x))))(hl:l.length=n)(nl:n<=134217728):Lm P F.jh (λs=>[s,.fn f [cap]]) n T.ny 11 (l.map je) (l.filter (λx=>!p x)).length ((l.filter (λx=>!p x)).map je):=by
 refine Lm.intro fn.jh (by rfl) (by rfl) (λ_=>Nat.le_of_ble_eq_true (by rfl)) 4 rfl λE b c hE=>(AW.rename 0 1000 rfl (AW.to [(0,.bH 1000 b n c),(1,.fn f [cap])] [(1000,rowA b c l)] (.cons bG.bH .di) (.cons rfl .nil) (AW.sg hE rfl (jg rfl (OL.nil (AW.sg hE rfl (gU rfl ?_)))))))
 refine NY rfl (OL.rV (v:=.d (dI (GZ p l))) (.mk (args':=[.bH 1000 b n c,.fn f [cap]]) rfl (.cons bG.bH .di) (bP (id:=1000) (blk:=rowA b c l) rfl) iK (az9 hf hl (by omega))) (aC rfl (OL.nil (AW.seq (AW.sg hE rfl (ai rfl (dG rfl rfl rfl ?_)))))))
 refine OL.nil (AW.cond rfl (λh12=>?_) (λh12=>?_))
 .have h12:GZ p l = -1:=kK h12;have e0:l.filter (λx=>!p x)=l:=by have:=Pz (p:=p) (Nat.le_refl l.length) (XZ.resolve_right (λ⟨i,e,_⟩=>by omega)).2;rwa [List.take_length] at this
  rw[e0,hl];exact AW.sg hE rfl (gU rfl (oC rfl (OL.nil (AW.ret ⟨.inr rfl,1000,b,c,l.map je,rfl,rfl,by rw[dD];omega,by rw[List.take_of_length_le (by rw[dD];omega)]⟩))))
 .have h12:GZ p l ≠ -1:=lD h12;obtain⟨i0,g1,g2,g3,g4⟩:=XZ.resolve_left (λe=>h12 e.1);rw[g1];refine AW.skip (AW.seq (AW.sg hE rfl (ai rfl (aH rfl rfl (by omega) (aC rfl (OL.nil (AW.block ?_)))))))
  refine AW.aU (α:=Nat × Nat × List bD) [(0,_),(1,_),(4,_)] [] (λ(i,j,u)=>[(5,.d (dI i)),(6,.d (dI j))]) (λ(i,j,u)=>[(1000,rowA b c u)]) (λ(i,j,u)=>i<j/\j<=n/\u.length=n/\u.take i=(l.take j).filter (λx=>!p x)/\∀ k,j<=k->u.getD k default=l.getD k default) (λ(i,j,u)=>n-j) (i0,i0+1,l) (.cons (yO rfl) (.cons (OO rfl) (.cons (AO rfl) .nil))) .nil ⟨⟨by omega,by omega,hl,by rw[aj1 (by omega),Pz (by omega) g4,if_pos g3,List.append_nil],λk _=>rfl⟩,.gy,.cons rfl .nil⟩ ?_
  rintro⟨i,j,u⟩ ⟨h1,h2,h3,h4,h5⟩
  have h1:i<j:=h1;have h2:j<=n:=h2;have h3:u.length=n:=h3;refine AW.seq (AW.sg hE rfl (ai rfl (gU rfl (Iy sl.dm rfl rfl (aX rfl rfl rfl (OL.nil (AW.cond rfl (λh19=>?_) (λh19=>?_))))))))
  .try simp only[eG] at h19
   refine AW.skip (AW.seq (AW.block (AW.sg hE rfl (gU rfl (ai rfl (jk sl.dm rfl rfl (by omega) (FW ag.ny (by decide) rfl rfl (nT (show j<u.length by omega)) (vs:=lC (u.getD j default)) rfl (aA rfl) ?_)))))))
   rw[h5 j (Nat.le_refl _)];refine al z.ny rfl λb7=>(fG sz.ny rfl rfl rfl rfl rfl (aA rfl) (cells2:=[_,_,_,_,_,_,_,_,_,_,_]) rfl (OL.nil (AW.sg hE rfl (NY rfl (aN ag.ny rfl rfl (vs:=[_,_,_,_,_,_,_,_,_,_,_]) rfl (aA rfl) (bF rfl .gy (hf (l.getD j default) (getD_mem (by omega) _)) (nt rfl ?_)))))))
   refine OL.nil (AW.cond rfl (λhp=>?_) (λhp=>?_))
   .have hp:p (l.getD j default)=false:=by simpa using hp
    refine AW.sg hE rfl (gU rfl (ai rfl (aN ag.ny rfl rfl (vs:=[_,_,_,_,_,_,_,_,_,_,_]) rfl (aA rfl) (jk sl.dm rfl rfl (by omega) (Oa sz.ny rfl (d:=je (l.getD j default)) y8 rfl rfl (by rw[dD];omega) (es2:=(u.set i (l.getD j default)).map je) (by rw[List.map_set]) (OL.nil (AW.rg hE rfl ?_)))))))
    refine ai rfl (aH rfl rfl (by omega) (aC rfl (OL.nil (AW.rg hE rfl (ai rfl (aH rfl rfl (by omega) (aC rfl ?_)))))))
    refine OL.nil ?_;exact AW.again (x:=(i,j,u)) (i+1,j+1,u.set i (l.getD j default)) (by (simp only[];omega)) ⟨⟨by omega,by omega,by rw[List.length_set];exact h3,by rw[aj1 (by omega),<- h4,if_neg (by rw[hp];decide)];exact aj2 (by omega),λk hk=>by rw[IQ (by omega),if_neg (by omega)];exact h5 k (by omega)⟩,Knows.app .xf .gy,.cons rfl .nil⟩
   .have hp:p (l.getD j default)=true:=by simpa using hp
    refine AW.skip (AW.rg hE rfl (ai rfl (aH rfl rfl (by omega) (aC rfl (OL.nil ?_)))))
    exact AW.again (x:=(i,j,u)) (i,j+1,u) (by (simp only[];omega)) ⟨⟨by omega,by omega,h3,by rw[aj1 (by omega),if_pos hp,List.append_nil];exact h4,λk hk=>h5 k (by omega)⟩,Knows.app .xf .gy,.cons rfl .nil⟩
  .try simp only[eG] at h19
   refine AW.exit (AW.seq ?_);obtain rfl:j=n:=by omega
   have hf0:l.filter (λx=>!p x)=u.take i:=by rw[h4,List.take_of_length_le (by omega)]
   have hti:(u.take i).length=i:=by rw[List.length_take];omega
   rw[hf0,hti];refine AW.XD (by rw[hE];rfl) (SL.jy (gU rfl (OL.nil ?_)))
   refine SL.jy (ai rfl (OL.nil ?_));refine SL.jy (slB (l:=i) (n2:=j-i) sl.dm rfl rfl (by omega) rfl (OL.nil ?_))
   refine SL.Ll rfl (SO.aN2 (z:=je default) trivial sl.dm z.ny aj0 rfl rfl (by rw[dD];omega) ?_)
   refine AW.sg hE rfl (gU rfl (ai rfl (slO (h:=i) sl.dm rfl rfl (by omega) (oC rfl (OL.nil ?_)))))
   exact AW.ret ⟨.inr rfl,1000,b,c,_,rfl,rfl,by rw[iU,List.length_take,dD,List.length_replicate];omega,by rw[List.take_append_of_le_length (by rw[List.length_take,dD];omega),List.take_take,Nat.min_self,List.map_take]⟩
def Zg (k:Nat)(l:List bD):Prop:=∀ x,x ∈ l->sz x.q<=(k+1)*134217730
theorem Zh {k:Nat}{out:List bD}{x:bD}(h:Zg k out)(hx:sz x.q<=134217728):Zg (k+1) (jK out x):=by
 have up:∀ y,sz y<=(k+1)*134217730->sz y<=(k+1+1)*134217730:=λy hy=>Nat.le_trans hy (Nat.mul_le_mul_right _ (Nat.le_succ _));intro y hy;unfold jK at hy
 split at hy
 .rename_i hc;rcases List.mem_or_eq_of_mem_set hy with hy|rfl
  .exact up _ (h y hy)
  .have h1:=h _ (getD_mem (show out.length-1<out.length by omega) default)
   have h2:=AB (out.getD (out.length-1) default).q x.q;show sz ((out.getD (out.length-1) default).q+x.q)<=_
   omega
 .rcases rD hy with hy|hy
  .exact up _ (h y hy)
  .rw[kJ hy];omega
theorem Zi {l:List bD}{i:Nat}(hi:i<l.length):(l.take (i+1)).foldl jK []=jK ((l.take i).foldl jK []) (l.getD i default):=by
 rw[List.take_add_one,List.foldl_append,kL hi,gI,kL hi];rfl
theorem Wq (out:List bD)(x:bD):(jK out x).length<=out.length+1:=by
 unfold jK
 split
 .rw[List.length_set];omega
 .rw[iU];exact Nat.le_refl _
theorem aA1 {l:List bD}(nl:l.length<=134217728):iR P F.mP [.d (lK l)] l.length T.ny 11 (l.map je):=by
 refine iR.intro fn.mP (by rfl) (by rfl) (aA (by rfl)) 2 rfl λE hE=>(AW.sg hE rfl (jg rfl (OL.nil (AW.seq (AW.sg hE rfl (ai rfl (isNil sl.dm.u rfl (λy hy=>by obtain⟨a,_,rfl⟩:=jY hy;exact Nat.succ_pos _) rfl λb hb=>?_)))))))
 refine OL.nil (AW.cond rfl (λh=>?_) (λh=>?_))
 .have hL:l=[]:=by have:=hb h;simpa using this
  subst hL;exact AW.sg hE rfl (jg rfl (OL.nil (AW.own 2 99 T.ny 11 rfl rfl (AW.ret ⟨.inr rfl,99,0,0,[],rfl,rfl,Nat.le_refl _,rfl⟩))))
 .have _h:=h;exact AW.skip (AW.sg hE rfl (lt0 sl.dm (ai rfl (apM sl.dm rfl rfl (VC.d _) Ef (by simp;omega) (by simp;omega) rfl λb7 c7=>(oC rfl (OL.nil (AW.ret ⟨.inr rfl,7,b7,c7,l.map je,by show V.bH 7 b7 (List.map je l).length c7=_;rw[dD],rfl,by rw[dD];exact Nat.le_refl _,List.take_of_length_le (by rw[dD];exact Nat.le_refl _)⟩)))))))
theorem aj3 {b c:Nat}:eF P F.gm [.bH 1000 b 0 c,.d (dI 0),.fn F.cO []] (mem1 1000 (rowA b c [])) (.jE []) (mem1 1000 (rowA b c [])):=by
 refine eF.intro fn.gm (by rfl) (by rfl) (aA (by rfl)) λE hE=>(AW.sg hE rfl (aC rfl (OL.nil (AW.sg hE rfl (ai rfl (aC rfl (aC rfl ?_)))))))
 refine OL.nil (AW.seq (AW.block ?_));refine AW.aU (α:=Unit) [(0,_),(1,_),(2,_),(6,_)] [] (λ_u=>[(7,.d (dI 0)),(8,.d (dI 20))]) (λ_u=>[(1000,rowA b c [])]) (λ_u=>True) (λ_u=>0) () (.cons (yO rfl) (.cons (bY rfl) (.cons (OO rfl) (.cons (bY rfl) .nil)))) .nil ⟨trivial,.gy,.cons rfl .nil⟩ ?_
 rintro⟨⟩ -
 refine AW.seq (AW.sg hE rfl (ai rfl (ai rfl (wZ rfl rfl rfl (OL.nil (AW.cond rfl (λhno=>absurd hno (by simp)) (λ_=>?_)))))))
 refine AW.exit (AW.sg hE rfl (gU rfl (ai rfl (ai rfl (NY rfl ?_)))));refine OL.rV (v:=.jE []) (.mk (args':=[.bH 1000 b 0 c,.d (dI 0),.d (dI 0),.fn F.cO []]) rfl (.cons vR (.cons vR (.cons vR (.cons vR (.nil))))) (bP (id:=1000) (blk:=rowA b c []) rfl) iK (Ug (n:=0) (by decide))) ?_
 refine OL.nil (AW.block ?_);refine AW.aU (α:=Unit) [(0,_),(1,_),(2,_)] [] (λ_u=>[(6,.d (dI 20))]) (λ_u=>[(1000,rowA b c [])]) (λ_u=>True) (λ_u=>0) () (.cons (yO rfl) (.cons (bY rfl) (.cons (OO rfl) .nil))) .nil ⟨trivial,.di,.cons rfl .nil⟩ ?_
 rintro⟨⟩ -
 refine AW.seq (AW.sg hE rfl (ai rfl (ai rfl (aX rfl rfl rfl (OL.nil (AW.cond rfl (λhno=>absurd hno (by simp)) (λ_=>?_)))))))
 exact AW.exit (⟨⟨_,.nil,_,.nil,rfl⟩,bP rfl⟩)
theorem Rh {b c:Nat}:eF P F.dH [.bH 1000 b 0 c,.fn F.cO []] (mem1 1000 (rowA b c [])) (.jE []) (mem1 1000 (rowA b c [])):=by
 refine eF.intro fn.dH (by rfl) (by rfl) (aA (by rfl)) λE hE=>(AW.rg hE rfl (gU rfl (gU rfl (Iy sl.dm rfl rfl (NY rfl (OL.rV (v:=.jE []) (.mk (args':=[.bH 1000 b 0 c,.d (dI 0),.fn F.cO []]) rfl (.cons vR (.cons vR (.cons vR (.nil)))) (bP (id:=1000) (blk:=rowA b c []) rfl) iK (aj3)) (OL.nil ?_)))))))
 exact⟨⟨_,.nil,_,.nil,rfl⟩,bP rfl⟩
theorem Ui {l:List bD}{b n c:Nat}(hl:l.length=n)(hn:n<=20):eF P F.dH [.bH 1000 b n c,.fn F.cO []] (mem1 1000 (rowA b c l)) (.jE []) (mem1 1000 (rowA b c (sortA l))):=by
 rcases Nat.eq_zero_or_pos n with h0|h0
 .subst h0;rw[Gt hl];exact Rh
 .have h:=Uh (b:=b) (c:=c) hl ⟨h0,hn⟩;subst hl;exact h

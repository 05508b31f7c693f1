/-
  Walks of package automaton, part 4: arcs in normal form (printed by mk2.py).
-/
import Derived.Test.YtnjoncgnjdkaoaaGreatDoorKAlg38
set_option linter.unusedVariables false
set_option linter.unusedSimpArgs false
namespace Go.Proofs.YtnjoncgnjdkaoaaGreatDoor
open Go Go.AL
abbrev Ie:V:=.ref [dI 1,.sl []]
theorem ak4:VCs [.d (dI 0),.d (dI 0),.d (dI 0),.d (dB false),.mt,.mt,.d (dI 0),.d (dB false),.d (dU 0),.mt,.mt] (jy default).cells:=by
 show VCs _ [dI 0,dI 0,dI 0,dB (fZ 0).neg,aH (fZ 0).num,aH (fZ 0).den,dI 0,dB false,dU 0,.sl [],.sl []]
 rw[tV];exact .cons (VC.d _) (.cons (VC.d _) (.cons (VC.d _) (.cons (VC.d _) (.cons VC.mt (.cons VC.mt (.cons (VC.d _) (.cons (VC.d _) (.cons (VC.d _) (.cons VC.mt (.cons VC.mt .nil))))))))))
theorem aQ8 {x:bH}(hz:sz x.q<=68719476736):aj P F.o8 [Ib x,Ie] (.d (dB (decide (x.q=0)))):=by
 refine aj.intro fn.o8 (by rfl) (by rfl) (aB (by rfl)) λE hE=>(AW.sg hE rfl (iI rfl rfl λb2=>(aF rfl (OL.nil (AW.sg hE rfl (jH ag.Ring rfl (vs:=[_,_]) rfl (aB rfl) (aW fd.uS rfl rfl ?_)))))))
 exact aO ag.aA rfl rfl (vs:=[_,_,_,_,_,_,_,_]) rfl (aB rfl) (bJ rfl .iq (aB6 hz) (aF rfl (OL.nil (AW.ret (aP.r ⟨_,.tmp rfl .nil,.le vR⟩)))))
theorem aB9 {l:List bH}{f:Nat}{cap:V}{p:bH->Bool}(hf:∀ x,x ∈ l->aj P f [Ib x,cap] (.d (dB (p x)))){n b c:Nat}(hl:l.length=n)(nl:n<=1099511627776):eX P F.gu [.bF 1000 b n c,.fn f [cap]] (mem1 1000 (rowA b c l)) (.d (dI (Hl p l))) (mem1 1000 (rowA b c l)):=by
 refine eX.intro fn.gu (by rfl) (by rfl) (aB (by rfl)) λE hE=>(AW.sg hE rfl (aF rfl (OL.nil (AW.seq (AW.sg hE rfl (jq rfl (G5 sl.dH rfl rfl ?_)))))))
 refine ai rfl (OL.nil (AW.block ?_));refine AW.aV (α:=Nat) [(0,_),(1,_),(7,_)] [] (λi=>[(8,.d (dI i))]) (λi=>[(1000,rowA b c l)]) (λi=>i<=l.length/\∀ j,j<i->p (l.getD j default)=false) (λi=>l.length-i) 0 (.cons (yj rfl) (.cons (LH rfl) (.cons (bK rfl) .nil))) .nil ⟨⟨Nat.zero_le _,λj hj=>by omega⟩,.bZ,.cons rfl .nil⟩ ?_
 rintro i ⟨h1,h2⟩
 refine AW.sg hE rfl (aY rfl rfl rfl (OL.nil (AW.seq (AW.cond rfl (λh9=>?_) (λh9=>?_)))))
 .try simp only[dX] at h9
  refine AW.skip (AW.seq (AW.block (AW.sg hE rfl (ai rfl (aF rfl (OL.nil (AW.sg hE rfl ?_)))))));refine Ky rfl (jq rfl (ai rfl (iM sl.dH rfl rfl (by omega) (FK ag.pO (by decide) rfl rfl (oQ (show i<l.length by omega)) (vs:=lN (l.getD i default)) rfl (aB rfl) (bJ rfl .iq (hf (l.getD i default) (getD_mem (by omega) _)) (OL.nil (AW.cond rfl (λh16=>?_) (λh16=>?_))))))))
  .have h16:=h16;exact AW.sg hE rfl (ai rfl (aF rfl (OL.nil (AW.ret ⟨⟨_,.tmp rfl .nil,.le (bG.int ((CO (by omega) default h16 h2).symm))⟩,dh rfl⟩))))
  .have h16:=h16;refine AW.skip (AW.rg hE rfl (aI rfl rfl (by omega) (ai rfl (OL.nil ?_))))
   exact AW.again (x:=i) (i+1) (by omega) ⟨⟨by omega,λj hj=>by rcases Nat.lt_or_ge j i with h|h;exact h2 j h;obtain rfl:j=i:=(by omega);exact h16⟩,Knows.app .Ah .bZ,.cons rfl .nil⟩
 .try simp only[dX] at h9
  exact AW.exit (AW.sg hE rfl (aF rfl (OL.nil (AW.ret ⟨⟨_,.tmp rfl .nil,.le (bG.int ((ER default λj hj=>h2 j (by omega)).symm))⟩,dh rfl⟩))))
theorem ak5 {p:bH->Bool}{l:List bH}{j:Nat}(hj:j<l.length):(l.take (j+1)).filter (λx=>!p x)=(l.take j).filter (λx=>!p x)++if p (l.getD j default)=true then [] else [l.getD j default]:=by
 rw[List.take_add_one,List.filter_append,ig,lu hj];simp only[Option.toList_some,Option.getD_some,List.filter_cons,List.filter_nil];cases p l[j] <;> rfl
theorem ak6 {u:List bH}{i:Nat}{x:bH}(h:i<u.length):(u.set i x).take (i+1)=u.take i++[x]:=by
 rw[List.take_add_one,List.take_set_of_le (Nat.le_refl _),List.getElem?_set_self h];rfl
theorem PU {p:bH->Bool}{l:List bH}{j:Nat}(hj:j<=l.length)(h:∀ k,k<j->p (l.getD k default)=false):(l.take j).filter (λx=>!p x)=l.take j:=by
 refine List.filter_eq_self.2 λx hx=>?_;obtain⟨k,hk,e⟩:=List.mem_iff_getElem.1 hx;rw[List.length_take] at hk;rw[List.getElem_take] at e;have:=h k (by omega)
 rw[ig,lu (by omega),Option.getD_some,e] at this
 rw[this];rfl
theorem Yd {p:bH->Bool}{l:List bH}:(Hl p l = -1/\∀ k,k<l.length->p (l.getD k default)=false) \/ ∃ i:Nat,Hl p l=(i:Int)/\i<l.length/\p (l.getD i default)=true/\∀ k,k<i->p (l.getD k default)=false:=by
 by_cases h:∃ i,i<l.length/\p (l.getD i default)=true
 .obtain⟨i,⟨h1,h2⟩,h3⟩:=Uh (p:=λi=>i<l.length/\p (l.getD i default)=true) _ h.choose_spec;have hk:∀ k,k<i->p (l.getD k default)=false:=λk hk=>Bool.eq_false_iff.2 λe=>by have:=h3 k ⟨by omega,e⟩;omega
  exact .inr ⟨i,CO h1 default h2 hk,h1,h2,hk⟩
 .have hk:∀ k,k<l.length->p (l.getD k default)=false:=λk hk=>Bool.eq_false_iff.2 λe=>h ⟨k,hk,e⟩;exact .inl ⟨ER default hk,hk⟩
set_option maxHeartbeats 800000 in
theorem aC0 {l:List bH}{n f:Nat}{cap:V}{p:bH->Bool}(hf:∀ x,x ∈ l->aj P f [Ib x,cap] (.d (dB (p x))))(hl:l.length=n)(nl:n<=134217728):LW P F.jD (λs=>[s,.fn f [cap]]) n T.pO 11 (l.map jy) (l.filter (λx=>!p x)).length ((l.filter (λx=>!p x)).map jy):=by
 refine LW.intro fn.jD (by rfl) (by rfl) (λ_=>Nat.le_of_ble_eq_true (by rfl)) 4 rfl λE b c hE=>(AW.rename 0 1000 rfl (AW.to [(0,.bF 1000 b n c),(1,.fn f [cap])] [(1000,rowA b c l)] (.cons bG.bF .bZ) (.cons rfl .nil) (AW.sg hE rfl (oK rfl (OL.nil (AW.sg hE rfl (jq rfl ?_)))))))
 refine Ky rfl (OL.tH (v:=.d (dI (Hl p l))) (.mk (args':=[.bF 1000 b n c,.fn f [cap]]) rfl (.cons bG.bF .bZ) (dh (id:=1000) (blk:=rowA b c l) rfl) iT (aB9 hf hl (by omega))) (aF rfl (OL.nil (AW.seq (AW.sg hE rfl (ai rfl (dR rfl rfl rfl ?_)))))))
 refine OL.nil (AW.cond rfl (λh12=>?_) (λh12=>?_))
 .have h12:Hl p l = -1:=lq h12;have e0:l.filter (λx=>!p x)=l:=by have:=PU (p:=p) (Nat.le_refl l.length) (Yd.resolve_right (λ⟨i,e,_⟩=>by omega)).2;rwa [List.take_length] at this
  rw[e0,hl];exact AW.sg hE rfl (jq rfl (tJ rfl (OL.nil (AW.ret ⟨.inr rfl,1000,b,c,l.map jy,rfl,rfl,by rw[dJ];omega,by rw[List.take_of_length_le (by rw[dJ];omega)]⟩))))
 .have h12:Hl p l ≠ -1:=nS h12;obtain⟨i0,g1,g2,g3,g4⟩:=Yd.resolve_left (λe=>h12 e.1);rw[g1];refine AW.skip (AW.seq (AW.sg hE rfl (ai rfl (aI rfl rfl (by omega) (aF rfl (OL.nil (AW.block ?_)))))))
  refine AW.aV (α:=Nat × Nat × List bH) [(0,_),(1,_),(4,_)] [] (λ(i,j,u)=>[(5,.d (dI i)),(6,.d (dI j))]) (λ(i,j,u)=>[(1000,rowA b c u)]) (λ(i,j,u)=>i<j/\j<=n/\u.length=n/\u.take i=(l.take j).filter (λx=>!p x)/\∀ k,j<=k->u.getD k default=l.getD k default) (λ(i,j,u)=>n-j) (i0,i0+1,l) (.cons (yj rfl) (.cons (LH rfl) (.cons (Ea rfl) .nil))) .nil ⟨⟨by omega,by omega,hl,by rw[ak5 (by omega),PU (by omega) g4,if_pos g3,List.append_nil],λk _=>rfl⟩,.iq,.cons rfl .nil⟩ ?_
  rintro⟨i,j,u⟩ ⟨h1,h2,h3,h4,h5⟩
  have h1:i<j:=h1;have h2:j<=n:=h2;have h3:u.length=n:=h3;refine AW.seq (AW.sg hE rfl (ai rfl (jq rfl (G5 sl.dH rfl rfl (aY rfl rfl rfl (OL.nil (AW.cond rfl (λh19=>?_) (λh19=>?_))))))))
  .try simp only[dX] at h19
   refine AW.skip (AW.seq (AW.block (AW.sg hE rfl (jq rfl (ai rfl (iM sl.dH rfl rfl (by omega) (FK ag.pO (by decide) rfl rfl (oQ (show j<u.length by omega)) (vs:=lN (u.getD j default)) rfl (aB rfl) ?_)))))))
   rw[h5 j (Nat.le_refl _)];refine al z.pO rfl λb7=>(eH sz.pO rfl rfl rfl rfl rfl (aB rfl) (cells2:=[_,_,_,_,_,_,_,_,_,_,_]) rfl (OL.nil (AW.sg hE rfl (Ky rfl (aO ag.pO rfl rfl (vs:=[_,_,_,_,_,_,_,_,_,_,_]) rfl (aB rfl) (bJ rfl .iq (hf (l.getD j default) (getD_mem (by omega) _)) (nt rfl ?_)))))))
   refine OL.nil (AW.cond rfl (λhp=>?_) (λhp=>?_))
   .have hp:p (l.getD j default)=false:=by simpa using hp
    refine AW.sg hE rfl (jq rfl (ai rfl (aO ag.pO rfl rfl (vs:=[_,_,_,_,_,_,_,_,_,_,_]) rfl (aB rfl) (iM sl.dH rfl rfl (by omega) (GI sz.pO rfl (d:=jy (l.getD j default)) Bg rfl rfl (by rw[dJ];omega) (es2:=(u.set i (l.getD j default)).map jy) (by rw[List.map_set]) (OL.nil (AW.rg hE rfl ?_)))))))
    refine ai rfl (aI rfl rfl (by omega) (aF rfl (OL.nil (AW.rg hE rfl (ai rfl (aI rfl rfl (by omega) (aF rfl ?_)))))))
    refine OL.nil ?_;exact AW.again (x:=(i,j,u)) (i+1,j+1,u.set i (l.getD j default)) (by (simp only[];omega)) ⟨⟨by omega,by omega,by rw[List.length_set];exact h3,by rw[ak5 (by omega),<- h4,if_neg (by rw[hp];decide)];exact ak6 (by omega),λk hk=>by rw[I9 (by omega),if_neg (by omega)];exact h5 k (by omega)⟩,Knows.app .Ah .iq,.cons rfl .nil⟩
   .have hp:p (l.getD j default)=true:=by simpa using hp
    refine AW.skip (AW.rg hE rfl (ai rfl (aI rfl rfl (by omega) (aF rfl (OL.nil ?_)))))
    exact AW.again (x:=(i,j,u)) (i,j+1,u) (by (simp only[];omega)) ⟨⟨by omega,by omega,h3,by rw[ak5 (by omega),if_pos hp,List.append_nil];exact h4,λk hk=>h5 k (by omega)⟩,Knows.app .Ah .iq,.cons rfl .nil⟩
  .try simp only[dX] at h19
   refine AW.exit (AW.seq ?_);obtain rfl:j=n:=by omega
   have hf0:l.filter (λx=>!p x)=u.take i:=by rw[h4,List.take_of_length_le (by omega)]
   have hti:(u.take i).length=i:=by rw[List.length_take];omega
   rw[hf0,hti];refine AW.XQ (by rw[hE];rfl) (SL.fM (jq rfl (OL.nil ?_)))
   refine SL.fM (ai rfl (OL.nil ?_));refine SL.fM (slB (l:=i) (n2:=j-i) sl.dH rfl rfl (by omega) rfl (OL.nil ?_))
   refine SL.IY rfl (SO.aQ7 (z:=jy default) trivial sl.dH z.pO ak4 rfl rfl (by rw[dJ];omega) ?_)
   refine AW.sg hE rfl (jq rfl (ai rfl (slO (h:=i) sl.dH rfl rfl (by omega) (tJ rfl (OL.nil ?_)))))
   exact AW.ret ⟨.inr rfl,1000,b,c,_,rfl,rfl,by rw[jG,List.length_take,dJ,List.length_replicate];omega,by rw[List.take_append_of_le_length (by rw[List.length_take,dJ];omega),List.take_take,Nat.min_self,List.map_take]⟩
def Zv (k:Nat)(l:List bH):Prop:=∀ x,x ∈ l->sz x.q<=(k+1)*134217730
theorem Zw {k:Nat}{out:List bH}{x:bH}(h:Zv k out)(hx:sz x.q<=134217728):Zv (k+1) (kz out x):=by
 have up:∀ y,sz y<=(k+1)*134217730->sz y<=(k+1+1)*134217730:=λy hy=>Nat.le_trans hy (Nat.mul_le_mul_right _ (Nat.le_succ _));intro y hy;unfold kz at hy
 split at hy
 .rename_i hc;rcases List.mem_or_eq_of_mem_set hy with hy|rfl
  .exact up _ (h y hy)
  .have h1:=h _ (getD_mem (show out.length-1<out.length by omega) default)
   have h2:=Bd (out.getD (out.length-1) default).q x.q;show sz ((out.getD (out.length-1) default).q+x.q)<=_
   omega
 .rcases ul hy with hy|hy
  .exact up _ (h y hy)
  .rw[lW hy];omega
theorem Zx {l:List bH}{i:Nat}(hi:i<l.length):(l.take (i+1)).foldl kz []=kz ((l.take i).foldl kz []) (l.getD i default):=by
 rw[List.take_add_one,List.foldl_append,lu hi,ig,lu hi];rfl
theorem WG (out:List bH)(x:bH):(kz out x).length<=out.length+1:=by
 unfold kz
 split
 .rw[List.length_set];omega
 .rw[jG];exact Nat.le_refl _
theorem aC1 {l:List bH}(nl:l.length<=134217728):jd P F.nG [.d (oI l)] l.length T.pO 11 (l.map jy):=by
 refine jd.intro fn.nG (by rfl) (by rfl) (aB (by rfl)) 2 rfl λE hE=>(AW.sg hE rfl (oK rfl (OL.nil (AW.seq (AW.sg hE rfl (ai rfl (isNil sl.dH.u rfl (λy hy=>by obtain⟨a,_,rfl⟩:=mM hy;exact Nat.succ_pos _) rfl λb hb=>?_)))))))
 refine OL.nil (AW.cond rfl (λh=>?_) (λh=>?_))
 .have hL:l=[]:=by have:=hb h;simpa using this
  subst hL;exact AW.sg hE rfl (oK rfl (OL.nil (AW.own 2 99 T.pO 11 rfl rfl (AW.ret ⟨.inr rfl,99,0,0,[],rfl,rfl,Nat.le_refl _,rfl⟩))))
 .have _h:=h;exact AW.skip (AW.sg hE rfl (lt0 sl.dH (ai rfl (apM sl.dH rfl rfl (VC.d _) Ew (by simp;omega) (by simp;omega) rfl λb7 c7=>(tJ rfl (OL.nil (AW.ret ⟨.inr rfl,7,b7,c7,l.map jy,by show V.bF 7 b7 (List.map jy l).length c7=_;rw[dJ],rfl,by rw[dJ];exact Nat.le_refl _,List.take_of_length_le (by rw[dJ];exact Nat.le_refl _)⟩)))))))
theorem ak7 {b c:Nat}:eX P F.gy [.bF 1000 b 0 c,.d (dI 0),.fn F.dF []] (mem1 1000 (rowA b c [])) (.jS []) (mem1 1000 (rowA b c [])):=by
 refine eX.intro fn.gy (by rfl) (by rfl) (aB (by rfl)) λE hE=>(AW.sg hE rfl (aF rfl (OL.nil (AW.sg hE rfl (ai rfl (aF rfl (aF rfl ?_)))))))
 refine OL.nil (AW.seq (AW.block ?_));refine AW.aV (α:=Unit) [(0,_),(1,_),(2,_),(6,_)] [] (λ_u=>[(7,.d (dI 0)),(8,.d (dI 20))]) (λ_u=>[(1000,rowA b c [])]) (λ_u=>True) (λ_u=>0) () (.cons (yj rfl) (.cons (bK rfl) (.cons (LH rfl) (.cons (bK rfl) .nil)))) .nil ⟨trivial,.iq,.cons rfl .nil⟩ ?_
 rintro⟨⟩ -
 refine AW.seq (AW.sg hE rfl (ai rfl (ai rfl (xN rfl rfl rfl (OL.nil (AW.cond rfl (λhno=>absurd hno (by simp)) (λ_=>?_)))))))
 refine AW.exit (AW.sg hE rfl (jq rfl (ai rfl (ai rfl (Ky rfl ?_)))));refine OL.tH (v:=.jS []) (.mk (args':=[.bF 1000 b 0 c,.d (dI 0),.d (dI 0),.fn F.dF []]) rfl (.cons vR (.cons vR (.cons vR (.cons vR (.nil))))) (dh (id:=1000) (blk:=rowA b c []) rfl) iT (Un (n:=0) (by decide))) ?_
 refine OL.nil (AW.block ?_);refine AW.aV (α:=Unit) [(0,_),(1,_),(2,_)] [] (λ_u=>[(6,.d (dI 20))]) (λ_u=>[(1000,rowA b c [])]) (λ_u=>True) (λ_u=>0) () (.cons (yj rfl) (.cons (bK rfl) (.cons (LH rfl) .nil))) .nil ⟨trivial,.bZ,.cons rfl .nil⟩ ?_
 rintro⟨⟩ -
 refine AW.seq (AW.sg hE rfl (ai rfl (ai rfl (aY rfl rfl rfl (OL.nil (AW.cond rfl (λhno=>absurd hno (by simp)) (λ_=>?_)))))))
 exact AW.exit (⟨⟨_,.nil,_,.nil,rfl⟩,dh rfl⟩)
theorem Rt {b c:Nat}:eX P F.dM [.bF 1000 b 0 c,.fn F.dF []] (mem1 1000 (rowA b c [])) (.jS []) (mem1 1000 (rowA b c [])):=by
 refine eX.intro fn.dM (by rfl) (by rfl) (aB (by rfl)) λE hE=>(AW.rg hE rfl (jq rfl (jq rfl (G5 sl.dH rfl rfl (Ky rfl (OL.tH (v:=.jS []) (.mk (args':=[.bF 1000 b 0 c,.d (dI 0),.fn F.dF []]) rfl (.cons vR (.cons vR (.cons vR (.nil)))) (dh (id:=1000) (blk:=rowA b c []) rfl) iT (ak7)) (OL.nil ?_)))))))
 exact⟨⟨_,.nil,_,.nil,rfl⟩,dh rfl⟩
theorem Ur {l:List bH}{b n c:Nat}(hl:l.length=n)(hn:n<=20):eX P F.dM [.bF 1000 b n c,.fn F.dF []] (mem1 1000 (rowA b c l)) (.jS []) (mem1 1000 (rowA b c (sortA l))):=by
 rcases Nat.eq_zero_or_pos n with h0|h0
 .subst h0;rw[IK hl];exact Rt
 .have h:=Uo (b:=b) (c:=c) hl ⟨h0,hn⟩;subst hl;exact h

/-
  Walks of package passive, part 2: samples, blocks, ranks (printed by mk2.py).
-/
import Derived.Test.YtnjoncgnjdkaoaaGreatDoorKPvB
set_option maxRecDepth 8000
set_option maxHeartbeats 3200000
set_option linter.unusedVariables false
set_option linter.unusedSimpArgs false
namespace Go.Proofs.YtnjoncgnjdkaoaaGreatDoor
open Go Go.AL
theorem JY {α:Type}(l:List α)(d:α):(List.range l.length).map (λj=>l.getD j d)=l:=by
 refine List.ext_getElem (by simp) λi h1 h2=>?_
 simp only[List.getElem_map,List.getElem_range];rw[gI,kL h2];rfl
theorem Kr {n B B2:Nat}{rs:List bJ}(h:pK n B rs)(hB:B<=B2):pK n B2 rs :=
 ⟨h.ech,λk r hk=>⟨λi=>Nat.le_trans ((h.sz k r hk).1 i) (Nat.mul_le_mul_left _ (by omega)),λi=>Nat.le_trans ((h.sz k r hk).2 i) (Nat.mul_le_mul_left _ (by omega))⟩,h.len,h.cl⟩
abbrev BM (f:List Int->Rat)(C:List (List Int))(i:Nat):List bJ:=Es ((C.take i).map (bU f C))
theorem WN {f:List Int->Rat}{C:List (List Int)}{i:Nat}(hi:i<C.length):vw (BM f C i) (bU f C (C.getD i []))=BM f C (i+1):=(Ic hi).symm
theorem NI {B:Nat}{vs:List Rat}(h1:1<=B)(h:Small B vs)(F:List (List Int))(w:List Int):sz (ay F vs w)<=B:=h.get h1 _
theorem ZF {C K:List (List Int)}{f:List Int->Rat}{i:Nat}(hi:i<K.length):((K.take (i+1)).map λu=>iG (bU f C u))=((K.take i).map λu=>iG (bU f C u))++[iG (bU f C (K.getD i []))]:=by
 rw[oZ [] hi,List.map_append];rfl
theorem NJ {l:List Rat}{C:Nat}(hl:Small C l)(hC:1<=C/\C<=68719476736)(nl:l.length<=1048576)(h0:l≠[]):iR P F.uQ [.d (iG l),.fn F.vT []] l.length T.Rat 3 (l.map dQ):=by
 refine iR.intro fn.uQ (by rfl) (by rfl) (aA (by rfl)) 4 rfl λE hE=>(AW.sg hE rfl (jg rfl (OL.nil (AW.seq (AW.sg hE rfl (ai rfl (isNil sl.bT.u rfl (λy hy=>by obtain⟨a,_,rfl⟩:=jY hy;exact Nat.succ_pos _) rfl λb hb=>?_)))))))
 refine OL.nil (AW.cond rfl (λhno=>absurd hno (λe=>h0 (by have:=hb e;simpa using this))) (λ_=>?_))
 refine AW.skip (AW.sg hE rfl (ai rfl (fJ sl.bT rfl rfl (mkL dQ 0 sl.bT z.Rat IC rfl rfl (Nat.le_refl _) (by omega) (by omega) rfl λb12=>(oC rfl (OL.nil (AW.seq ?_)))))))
 refine AW.sg hE rfl (ai rfl (fJ sl.bT rfl rfl (ai rfl (OL.nil (AW.block ?_)))));refine AW.aU (α:=Nat) [(1,_),(4,_),(5,_),(13,_),(14,_)] [] (λi=>[(15,.d (dI i))]) (λi=>[(12,.row b12 l.length T.Rat 3 ((vg 0 (λj=>l.getD j 0) l.length i).map dQ))]) (λi=>i<=l.length) (λi=>l.length-i) 0 (.cons (OO rfl) (.cons (AO rfl) (.cons (yO rfl) (.cons (bY rfl) (.cons (bY rfl) .nil))))) .nil ⟨Nat.zero_le _,.di,.cons (by rw[F8];rfl) .nil⟩ ?_
 intro i h1;have h1:i<=l.length:=h1;have hfl:=ES 0 (λj=>l.getD j 0) l.length i;refine AW.sg hE rfl (aX rfl rfl rfl (OL.nil (AW.seq (AW.cond rfl (λh16=>?_) (λh16=>?_)))))
 .try simp only[eG] at h16
  refine AW.skip (AW.seq (AW.block (AW.sg hE rfl (ai rfl (fM sl.bT 0 rfl rfl (by omega) rfl rfl (jS ag.Rat rfl (vs:=[_,_,_]) rfl (aA rfl) (al z.Rat rfl λb7=>?_)))))))
  refine aC rfl (fG sz.Rat rfl rfl rfl rfl rfl (aA rfl) (cells2:=[_,_,_]) rfl (OL.nil (AW.rg hE rfl (gU rfl (ai rfl (NY rfl (aN ag.Rat rfl rfl (vs:=[_,_,_]) rfl (aA rfl) ?_)))))));refine bF rfl vL (vT (Nat.le_trans (hl.get hC.1 i) hC.2)) (jk sl.bT rfl rfl (by omega) (Oa sz.Rat rfl yP rfl rfl (by rw[dD];omega) (es2:=(vg 0 (λj=>l.getD j 0) l.length (i+1)).map dQ) (by rw[<- ET (show i<l.length by omega),List.map_set]) (OL.nil (AW.rg hE rfl (aH rfl rfl (by omega) (ai rfl (OL.nil ?_)))))))
  exact AW.again (x:=i) (i+1) (by omega) ⟨by omega,Knows.app .Gs .di,.cons rfl .nil⟩
 .try simp only[eG] at h16
  refine AW.exit (AW.seq ?_);obtain rfl:i=l.length:=by omega
  have hfr:(List.range l.length).map (λj=>l.getD j 0)=l:=JY l 0;refine AW.rg hE rfl (gU rfl (oC rfl (OL.nil ?_)));exact AW.ret ⟨.inr rfl,12,b12,l.length,(vg 0 (λj=>l.getD j 0) l.length l.length).map dQ,rfl,rfl,by rw[dD,ES];exact Nat.le_refl _,by rw[O5,hfr];exact List.take_of_length_le (by rw[dD];exact Nat.le_refl _)⟩
theorem UW {l:List Rat}{C:Nat}(hl:Small C l)(hC:1<=C/\C<=68719476736)(nl:l.length<=1048576)(h0:l≠[]):iR P F.CG [.d (iG l)] l.length T.Rat 3 (l.map dQ):=by
 refine iR.intro fn.CG (by rfl) (by rfl) (aA (by rfl)) 2 rfl λE hE=>(AW.sg hE rfl (jg rfl (OL.nil (AW.sg hE rfl (ai rfl (clR rfl .gy (NJ hl hC nl h0) rfl λb4 c4=>(oC rfl ?_)))))))
 exact OL.nil (AW.ret ⟨.inr rfl,4,b4,c4,l.map dQ,rfl,rfl,by rw[dD];exact Nat.le_refl _,List.take_of_length_le (by rw[dD];exact Nat.le_refl _)⟩)
theorem NK {s m:Nat}{vs:List Rat}{B:Nat}(hs:1<=s/\s<=32)(hm:m+1<=256)(hb:(ah s (m+1)).length<=4000)(hl:vs.length=(ah s (m+1)).length)(h1:1<=B)(h2:B<=16777215)(zs:Small B vs):aj P F.pR [.d (dI s),.d (dI ((m+1:Nat):Int)),.d (iG vs)] (.jE [(Ru s (m+1) (ah s (m+1)) vs),.d (dI 0)]):=by
 have hps:=Yd (k:=s) (n:=m+1);have hne:vs≠[]:=λe=>by rw[e] at hl;simp at hl;omega
 refine aj.intro fn.pR (by rfl) (by rfl) (aA (by rfl)) λE hE=>(AW.sg hE rfl (al z.sample rfl λb6=>(aC rfl (OL.nil (AW.sg hE rfl (ai rfl (ai rfl ?_)))))))
 refine bF rfl vL (aO9 hs hm hb) (yu rfl (ex rfl rfl (ex rfl rfl (aC rfl (aC rfl (OL.nil (AW.seq ?_)))))));refine AW.block (AW.sg hE rfl (ai rfl (fC rfl rfl (c:=false) (by exact nZ (by omega)) (aC rfl (OL.nil (oz rfl ?_))))))
 refine AW.sg hE rfl (ai rfl (fJ (f:=ints) sl.dX rfl rfl (ai rfl (fJ sl.bT rfl rfl (fC rfl rfl (c:=false) (nZ (by rw[hl])) (aC rfl (OL.nil ?_)))))))
 refine oz rfl ?_;refine AW.skip (AW.sg hE rfl (ai rfl (ai rfl (ai rfl (ai rfl (bF rfl vL (iR.data (UW (l:=vs) zs ⟨h1,by omega⟩ (by omega) hne) (dD ..).symm) (Vk (cs:=[_,_,_,_]) z.sample pl.sample (rG (by exact zC rfl) (rG (by exact zC rfl) (rG (by exact zC rfl) (rG (by exact zC rfl) (Vj))))) (by rfl) ?_)))))))
 refine al z.sample rfl λb10=>(fG sz.sample rfl rfl rfl rfl rfl (aA rfl) (cells2:=[_,_,_,_]) rfl (OL.nil (AW.seq (AW.sg hE rfl (aV fd.LC rfl rfl (aG ce.bT rfl rfl rfl (fJ sl.bT rfl rfl ?_)))))));refine ai rfl (OL.nil (AW.block ?_));refine AW.aU (α:=Nat) [(6,_),(7,_),(10,_),(38,_),(39,_)] [(6,_),(10,_)] (λi=>[(40,.d (dI i))]) (λi=>[]) (λi=>i<=vs.length) (λi=>vs.length-i) 0 (.cons (iJ rfl) (.cons (bY rfl) (.cons (iJ rfl) (.cons (bY rfl) (.cons (bY rfl) .nil))))) (.cons (kC rfl) (.cons (kC rfl) .nil)) ⟨Nat.zero_le _,.di,.nil⟩ ?_;intro i h3;have h3:i<=vs.length:=h3;refine AW.sg hE rfl (aX rfl rfl rfl (OL.nil (AW.seq (AW.cond rfl (λh41=>?_) (λh41=>?_)))))
 .try simp only[eG] at h41
  refine AW.skip (AW.seq (AW.block (AW.seq ?_)));have zx:=zs.get h1 i;refine AW.rg hE rfl (ai rfl (fM sl.bT 0 rfl rfl (by omega) rfl rfl (jS ag.Rat rfl (vs:=[_,_,_]) rfl (aA rfl) (al z.Rat rfl λb12=>(aC rfl (fG sz.Rat rfl rfl rfl rfl rfl (aA rfl) (cells2:=[_,_,_]) rfl (OL.nil ?_)))))))
  refine AW.sg hE rfl (aN ag.Rat rfl rfl (vs:=[_,_,_]) rfl (aA rfl) (bF rfl vL (xK (x:=vs.getD i 0) (by omega)) (nt rfl (OL.nil (AW.cond rfl (λhno=>absurd hno ((by decide))) (λ_=>?_))))))
  exact AW.skip (AW.rg hE rfl (aH rfl rfl (by omega) (ai rfl (OL.nil (AW.again (x:=i) (i+1) (by omega) ⟨by omega,Knows.app .Gs .di,dw.app (.cons rfl (.cons rfl .nil)) (.nil)⟩)))))
 .try simp only[eG] at h41
  exact AW.exit (AW.sg hE rfl (aN ag.sample rfl rfl (vs:=[_,_,_,_]) rfl (aA rfl) (fG sz.sample rfl rfl rfl rfl rfl (aA rfl) (cells2:=[_,_,_,_]) rfl (aC rfl (OL.nil (AW.ret (aO.r ⟨_,.dL rfl rfl ag.sample (aA rfl) (.tmp rfl .nil),_,.cons (.ag (.cons (.le vR) (.cons (.le vR) (.cons (.le vR) (.cons (.le vR) .nil))))) (.cons (.le vR) .nil),rfl⟩)))))))
theorem an2 {s n:Nat}{vs:List Rat}{B:Nat}(hl:vs.length=(ah s n).length)(h1:1<=B)(h2:B<=16777215)(zs:Small B vs){w:List Int}(nl:(ah s n).length<=4000)(nn:n<=256)(hw:w ∈ ah s n):aj P F.mr [(Ru s n (ah s n) vs),.d (ints w)] (vQ (ay (ah s n) vs w)):=by
 obtain⟨hi,_⟩:=Ie hw;have hwl:=(bW.1 hw).2;refine aj.intro fn.mr (by rfl) (by rfl) (aA (by rfl)) λE hE=>(AW.sg hE rfl (gW rfl rfl λb2=>(al z.Rat rfl λb4=>(OL.nil (AW.sg hE rfl (aV fd.G7 rfl rfl (aG ce.dX rfl rfl rfl ?_)))))))
 refine ai rfl ?_;refine bF rfl vL (an1 (l:=ah s n) (w:=w) (f:=F.su) (c:=λx=>mY x w) (by omega) (am5 (Et n) w) (λx hx=>an0 (v:=x) (w:=w) (by have:=(bW.1 hx).2;omega))) ?_
 rw[am6 (Et n) hw];refine yu rfl (ex rfl rfl (ex rfl rfl (aC rfl (aC rfl (OL.nil (AW.sg hE rfl (aV fd.LC rfl rfl ?_)))))));exact aG ce.bT rfl rfl rfl (ai rfl (fM sl.bT 0 rfl rfl (by omega) rfl rfl (jS ag.Rat rfl (vs:=[_,_,_]) rfl (aA rfl) (fG sz.Rat rfl rfl rfl rfl rfl (aA rfl) (cells2:=[_,_,_]) rfl (OL.nil (AW.ret (aO.r ⟨_,.dL rfl rfl ag.Rat (aA rfl) .nil,.ag (.cons (.le vR) (.cons (.le vR) (.cons (.le vR) .nil)))⟩)))))))
theorem WO {s n k:Nat}{vs:List Rat}(nl:(ah s n).length<=4000)(h:k<=n)(nn:n<=256):aj P F.mg [Ru s n (ah s n) vs,.d (dI k)] (.d (tZ (ah s k))):=by
 obtain⟨e1,e2,e3⟩:=tY (k:=s) h;refine aj.intro fn.mg (by rfl) (by rfl) (aA (by rfl)) λE hE=>(AW.sg hE rfl (gW rfl rfl λb2=>(jg rfl (OL.nil (AW.sg hE rfl (aV fd.G7 rfl rfl (aG ce.dX rfl rfl rfl ?_)))))))
 refine ai rfl (bo rfl rfl (kM (c:=((k+1:Nat):Int)) (by omega) (wrap_i64 (by omega))) ?_)
 refine bF rfl vL (bsearchI (l:=ah s n) (w:=((k+1:Nat):Int)) (f:=F.iZ) (c:=λx=>(x.length:Int)-((k+1:Nat):Int)) (by omega) (am7 (Et n) _) (λx hx=>aO8 (w:=x) (m:=((k+1:Nat):Int)) (by have:=(bW.1 hx).2;omega) (by omega))) ?_
 rw[e1];refine yu rfl (ex rfl rfl (ex rfl rfl (aC rfl (aC rfl (OL.nil (AW.sg hE rfl (aV fd.G7 rfl rfl ?_)))))));exact aG ce.dX rfl rfl rfl (ai rfl (ad5 sl.dX rfl rfl (λ_=>rfl) (by omega) (l2:=ah s k) (by rw[Int.toNat_natCast];exact e3) (aC rfl (OL.nil (AW.ret (aO.r ⟨_,.tmp rfl .nil,.le vR⟩))))))
theorem an3 {s n:Nat}{vs:List Rat}{B:Nat}(hl:vs.length=(ah s n).length)(h1:1<=B)(h2:B<=16777215)(zs:Small B vs){u:List Int}{k:Nat}(nl:(ah s n).length<=4000)(nn:n<=256)(hu:iV s u)(hk:u.length+k<=n):aj P F.lg [(Ru s n (ah s n) vs),.d (ints u),.d (dI k)] (.d (iG (bU (ay (ah s n) vs) (ah s k) u))):=by
 have hrl:(bU (ay (ah s n) vs) (ah s k) u).length=(ah s k).length:=dD ..;have hcl:=(tY (k:=s) (show k<=n by omega)).2.1
 have hmem:∀ v,v ∈ (ah s k)->u++v ∈ ah s n:=λv hv=>bW.2 ⟨λx hx=>(rD hx).elim (hu x) ((bW.1 hv).1 x),by rw[iU];have:=(bW.1 hv).2;omega⟩
 refine aj.intro fn.lg (by rfl) (by rfl) (aA (by rfl)) λE hE=>(AW.sg hE rfl (gW rfl rfl λb3=>(jg rfl (OL.nil (AW.sg hE rfl (jg rfl (OL.nil ?_)))))))
 refine AW.seq (AW.seq (AW.own 7 26 T.Rat 3 rfl rfl (AW.rg hE rfl (aN ag.sample rfl rfl (vs:=[_,_,_,_]) rfl (aA rfl) (ai rfl (bF rfl vL (WO (vs:=vs) (k:=k) nl (by omega) nn) (fJ (f:=ints) sl.dX rfl rfl ?_)))))))
 refine ai rfl (OL.nil (AW.block ?_));refine AW.aU (α:=Nat × Nat × Nat) [(1,_),(3,_),(6,_),(12,_),(13,_)] [(3,_)] (λ(i,bq,cq)=>[(7,.bH 26 bq i cq),(14,.d (dI i))]) (λ(i,bq,cq)=>[(26,.row bq cq T.Rat 3 (((bU (ay (ah s n) vs) (ah s k) u).take i).map dQ))]) (λ(i,bq,cq)=>i<=(ah s k).length) (λ(i,bq,cq)=>(ah s k).length-i) (0,0,0) (.cons (bY rfl) (.cons (iJ rfl) (.cons (AO rfl) (.cons (bY rfl) (.cons (bY rfl) .nil))))) (.cons (kC rfl) .nil) ⟨Nat.zero_le _,.gy,.cons rfl .nil⟩ ?_
 rintro⟨i,bq,cq⟩ h3
 have h3:i<=(ah s k).length:=h3;refine AW.sg hE rfl (aX rfl rfl rfl (OL.nil (AW.seq (AW.cond rfl (λh15=>?_) (λh15=>?_)))))
 .try simp only[eG] at h15
  refine AW.skip (AW.seq (AW.block (AW.seq ?_)));have hi:i<(ah s k).length:=by omega
  have hm:=getD_mem hi [];have hmv:=hmem _ hm;have hfl:([u,(ah s k).getD i []]:List (List Int)).flatten=u++(ah s k).getD i []:=by simp
  refine AW.rg hE rfl (fM sl.dX [] rfl rfl (by omega) rfl rfl (iE ce.ints rfl (aC rfl (OL.nil (AW.dg 2 [0,1,2,3,4,5,6,7,8,9] au hE rfl (by kernel_rfl) (OI.aS (os:=[_,_,_,_,_,_,_,_,_,_]) rfl ?_))))))
  refine gU rfl (aN ag.sample rfl rfl (vs:=[_,_,_,_]) rfl (aA rfl) (ai rfl (ai rfl (ltN (ys:=[ints u,ints ((ah s k).getD i [])]) sl.dX rfl (Oe (VC.d _).vd (Oe (VC.d _).vd pdN)) rfl (by decide) (by decide) (λy hy=>by simp at hy;rcases hy with rfl|rfl <;> rfl) (bF rfl vL (UU (L:=[u,(ah s k).getD i []]) (show 2<=1099511627776 by decide) (by rw[hfl];have:=(bW.1 hmv).2;omega)) ?_)))))
  rw[hfl];refine bF rfl vL (an2 (w:=u++(ah s k).getD i []) hl h1 h2 zs nl nn hmv) (xe (y:=dQ ((ay (ah s n) vs) (u++(ah s k).getD i []))) sl.bT yP rfl (by decide) ?_)
  refine zB sl.bT rfl rfl rfl (by rw[dD,List.length_take];omega) (VC.d _) (λy hy=>by rw[kJ hy];rfl) (by simp only[jL];omega) (by simp only[jL];omega) (.inr rfl) (ys:=((bU (ay (ah s n) vs) (ah s k) u).take (i+1)).map dQ) (by rw[WM hi,List.map_append];rfl) (n2:=i+1) rfl λb26 c26=>?_
  refine oC rfl (OL.nil (AW.rg hE rfl (aH rfl rfl (by omega) (ai rfl (OL.nil ?_)))))
  exact AW.again (x:=(i,bq,cq)) (i+1,b26,c26) (by (simp only[];omega)) ⟨by omega,Knows.app .Gs .gy,dw.app (.cons rfl .nil) (.cons rfl .nil)⟩
 .try simp only[eG] at h15
  refine AW.exit (AW.seq ?_);obtain rfl:i=(ah s k).length:=by omega
  refine AW.freeze 26 rfl (AW.to [(7,.d (iG (bU (ay (ah s n) vs) (ah s k) u)))] [] (.cons (eH (by rw[dD,List.length_take];omega) (by rw[List.take_of_length_le (by omega)])) .nil) .nil ?_)
  exact AW.rg hE rfl (ai rfl (aC rfl (OL.nil (AW.ret (aO.r ⟨_,.tmp rfl .nil,.le vR⟩)))))
theorem aP0 {s n:Nat}{vs:List Rat}{B:Nat}(hl:vs.length=(ah s n).length)(h1:1<=B)(h2:B<=16777215)(zs:Small B vs){k:Nat}(nl:(ah s n).length<=4000)(nn:n<=256)(hk:k+k<=n):aj P F.l7 [(Ru s n (ah s n) vs),.d (dI k)] (.d (.sl ((ah s k).map λu=>iG (bU (ay (ah s n) vs) (ah s k) u)))):=by
 have hcl:=(tY (k:=s) (show k<=n by omega)).2.1
 refine aj.intro fn.l7 (by rfl) (by rfl) (aA (by rfl)) λE hE=>(AW.sg hE rfl (gW rfl rfl λb2=>(jg rfl (OL.nil (AW.sg hE rfl (jg rfl (OL.nil ?_)))))))
 refine AW.seq (AW.seq (AW.own 5 22 T.bT 1 rfl rfl (AW.rg hE rfl (aN ag.sample rfl rfl (vs:=[_,_,_,_]) rfl (aA rfl) (ai rfl (bF rfl vL (WO (vs:=vs) (k:=k) nl (by omega) nn) (fJ (f:=ints) sl.dX rfl rfl ?_)))))))
 refine ai rfl (OL.nil (AW.block ?_));refine AW.aU (α:=Nat × Nat × Nat) [(1,_),(2,_),(4,_),(10,_),(11,_)] [(2,_)] (λ(i,bq,cq)=>[(5,.bH 22 bq i cq),(12,.d (dI i))]) (λ(i,bq,cq)=>[(22,.row bq cq T.bT 1 (((ah s k).take i).map λu=>iG (bU (ay (ah s n) vs) (ah s k) u)))]) (λ(i,bq,cq)=>i<=(ah s k).length) (λ(i,bq,cq)=>(ah s k).length-i) (0,0,0) (.cons (bY rfl) (.cons (iJ rfl) (.cons (AO rfl) (.cons (bY rfl) (.cons (bY rfl) .nil))))) (.cons (kC rfl) .nil) ⟨Nat.zero_le _,.gy,.cons rfl .nil⟩ ?_
 rintro⟨i,bq,cq⟩ h3
 have h3:i<=(ah s k).length:=h3;refine AW.sg hE rfl (aX rfl rfl rfl (OL.nil (AW.seq (AW.cond rfl (λh13=>?_) (λh13=>?_)))))
 .try simp only[eG] at h13
  refine AW.skip (AW.seq (AW.block (AW.seq ?_)));have hi:i<(ah s k).length:=by omega
  obtain⟨hu1,hu2⟩:=bW.1 (getD_mem hi []);refine AW.rg hE rfl (fM sl.dX [] rfl rfl (by omega) rfl rfl (iE ce.ints rfl (aC rfl (OL.nil (AW.rg hE rfl (gU rfl (aN ag.sample rfl rfl (vs:=[_,_,_,_]) rfl (aA rfl) ?_)))))))
  refine ai rfl (ai rfl (bF rfl vL (an3 (u:=(ah s k).getD i []) (k:=k) hl h1 h2 zs nl nn hu1 (by omega)) (xe (y:=iG (bU (ay (ah s n) vs) (ah s k) ((ah s k).getD i []))) sl.gB (VC.d _).vd rfl (by decide) ?_)))
  refine zB sl.gB rfl rfl rfl (by rw[dD,List.length_take];omega) (VC.d _) (λy hy=>by rw[kJ hy];rfl) (by simp only[jL];omega) (by simp only[jL];omega) (.inr rfl) (ys:=((ah s k).take (i+1)).map λu=>iG (bU (ay (ah s n) vs) (ah s k) u)) (ZF hi).symm (n2:=i+1) rfl λb22 c22=>?_
  refine oC rfl (OL.nil (AW.rg hE rfl (aH rfl rfl (by omega) (ai rfl (OL.nil ?_)))))
  exact AW.again (x:=(i,bq,cq)) (i+1,b22,c22) (by (simp only[];omega)) ⟨by omega,Knows.app .Gs .gy,dw.app (.cons rfl .nil) (.cons rfl .nil)⟩
 .try simp only[eG] at h13
  refine AW.exit (AW.seq ?_);obtain rfl:i=(ah s k).length:=by omega
  refine AW.freeze 22 rfl (AW.to [(5,.d (.sl ((ah s k).map λu=>iG (bU (ay (ah s n) vs) (ah s k) u))))] [] (.cons (eH (by rw[dD,List.length_take];omega) (by rw[List.take_of_length_le (Nat.le_refl _)])) .nil) .nil ?_)
  exact AW.rg hE rfl (ai rfl (aC rfl (OL.nil (AW.ret (aO.r ⟨_,.tmp rfl .nil,.le vR⟩)))))
theorem an4 {s m:Nat}{vs:List Rat}{B:Nat}(hs:1<=s/\s<=32)(hm:m+1<=256)(hb:(ah s (m+1)).length<=4000)(hl:vs.length=(ah s (m+1)).length)(h1:1<=B)(h2:B<=16777215)(zs:Small B vs){k:Nat}(hk:k+k<=m+1):aj P F.sW [.d (dI s),.d (dI ((m+1:Nat):Int)),.d (dI k),.d (iG vs)] (.jE [(Ru s (m+1) (ah s (m+1)) vs),.d (dI 0)]):=by
 refine aj.intro fn.sW (by rfl) (by rfl) (aA (by rfl)) λE hE=>(AW.sg hE rfl (al z.sample rfl λb8=>(aC rfl (OL.nil (AW.sg hE rfl (ai rfl (ai rfl ?_)))))))
 refine ai rfl (bF rfl vL (NK hs hm hb hl h1 h2 zs) (yu rfl (ex rfl rfl (ex rfl rfl (al z.sample rfl λb10=>(fG sz.sample rfl rfl rfl rfl rfl (aA rfl) (cells2:=[_,_,_,_]) rfl (aC rfl ?_)))))));refine OL.nil (AW.seq (AW.sg hE rfl (ai rfl (dG rfl rfl (c:=true) (by exact decide_eq_true (by omega)) (ai rfl (OL.yes rfl (ai rfl ?_)))))))
 refine OL.yes rfl (aX rfl rfl (c:=false) (decide_eq_false (by omega)) (OL.yes rfl (ai rfl (OL.yes rfl (ai rfl (OL.yes rfl (ai rfl ?_)))))))
 refine OL.yes rfl (bo rfl rfl (aw7 (m+1) 2 rfl (by omega) (by decide)) (OL.yes rfl (gV rfl rfl (c:=false) (decide_eq_false (by omega)) (OL.yes rfl (jZ rfl rfl (lJ rfl rfl (OL.nil ?_)))))))
 refine oz rfl ?_;exact AW.skip (AW.sg hE rfl (aN ag.sample rfl rfl (vs:=[_,_,_,_]) rfl (aA rfl) (ai rfl (fG sz.sample rfl rfl rfl rfl rfl (aA rfl) (cells2:=[_,_,_,_]) rfl (aC rfl (OL.nil (AW.ret (aO.r ⟨_,.dL rfl rfl ag.sample (aA rfl) (.tmp rfl .nil),_,.cons (.ag (.cons (.le vR) (.cons (.le vR) (.cons (.le vR) (.cons (.le vR) .nil))))) (.cons (.le vR) .nil),rfl⟩))))))))
theorem an5 {s m:Nat}{vs:List Rat}{B:Nat}(hs:1<=s/\s<=32)(hm:m+1<=256)(hb:(ah s (m+1)).length<=4000)(hl:vs.length=(ah s (m+1)).length)(h1:1<=B)(h2:B<=16777215)(zs:Small B vs){k:Nat}(hk:k+k<=m+1)(k6:∀ i,(BM (ay (ah s (m+1)) vs) (ah s k) i).length<=6):aj P F.oJ [.d (dI s),.d (dI ((m+1:Nat):Int)),.d (dI k),.d (iG vs)] (.jE [.d (dI (Ot s (ay (ah s (m+1)) vs) k)),.d (dI 0)]):=by
 have hcl:=(tY (k:=s) (show k<=m+1 by omega)).2.1
 refine aj.intro fn.oJ (by rfl) (by rfl) (aA (by rfl)) λE hE=>(AW.sg hE rfl (aC rfl (aC rfl (OL.nil (AW.sg hE rfl (ai rfl (ai rfl ?_)))))))
 refine ai rfl (ai rfl (bF rfl vL (an4 (k:=k) hs hm hb hl h1 h2 zs hk) (yu rfl (ex rfl rfl (ex rfl rfl (al z.sample rfl λb10=>(fG sz.sample rfl rfl rfl rfl rfl (aA rfl) (cells2:=[_,_,_,_]) rfl ?_)))))));refine aC rfl (OL.nil (AW.seq (AW.sg hE rfl (ai rfl (fC rfl rfl (c:=false) (by exact nZ (by omega)) (OL.nil (oz rfl ?_)))))))
 refine AW.skip (AW.sg hE rfl (bd z.rP pl.rP (cs:=[_,_,_]) rfl (gW rfl rfl λb27=>(asP rfl (OL.nil (AW.seq (AW.sg hE rfl ?_)))))));refine aN ag.sample rfl rfl (vs:=[_,_,_,_]) rfl (aA rfl) (ai rfl (bF rfl vL (aP0 (k:=k) hl h1 h2 zs hb hm hk) (fJ (l:=(ah s k)) (f:=λu=>iG (bU (ay (ah s (m+1)) vs) (ah s k) u)) sl.gB rfl rfl (ai rfl (OL.nil (AW.block (AW.rename 27 1000 rfl ?_)))))));refine AW.AX 1001 T.bT 1 rfl (AW.AX 1002 T.bT 1 rfl (AW.AX 1003 T.int 1 rfl (AW.DX 1000 [.bH 1001 0 0 0,.bH 1002 0 0 0,.bH 1003 0 0 0] rfl (.cons qQ (.cons qQ (.cons qQ .nil))) ?_)));refine AW.aU (α:=Nat × NZ) [(8,_),(9,_),(30,_),(31,_)] [] (λ(i,B)=>[(32,.d (dI i)),(12,.ptr 1000 b27 0)]) (λ(i,B)=>[(1000,P7 b27 B (BM (ay (ah s (m+1)) vs) (ah s k) i)),(1001,vsV B (BM (ay (ah s (m+1)) vs) (ah s k) i)),(1002,vsC B (BM (ay (ah s (m+1)) vs) (ah s k) i)),(1003,rowP B (BM (ay (ah s (m+1)) vs) (ah s k) i))]) (λ(i,B)=>i<=(ah s k).length) (λ(i,B)=>(ah s k).length-i) (0,default) (.cons (bY rfl) (.cons (bY rfl) (.cons (bY rfl) (.cons (bY rfl) .nil)))) .nil ⟨Nat.zero_le _,.cons vR (.cons (bG.ptr) .nil),.cons rfl (.cons rfl (.cons rfl (.cons rfl .nil)))⟩ ?_
 rintro⟨i,B⟩ h4
 have h4:i<=(ah s k).length:=h4;refine AW.sg hE rfl (aX rfl rfl rfl (OL.nil (AW.seq (AW.cond rfl (λh33=>?_) (λh33=>?_)))))
 .try simp only[eG] at h33
  refine AW.skip (AW.seq (AW.block (AW.seq ?_)));have hi:i<(ah s k).length:=by omega
  have spo:=Je (C:=(ah s k)) h1 (NI h1 zs (ah s (m+1))) i;have zb:=wu (C:=(ah s k)) h1 (NI h1 zs (ah s (m+1))) ((ah s k).getD i []);refine AW.rg hE rfl (fM (l:=(ah s k)) (f:=λu=>iG (bU (ay (ah s (m+1)) vs) (ah s k) u)) sl.gB [] rfl rfl hi rfl rfl (iE ce.bT rfl (aC rfl (OL.nil (AW.Ce (by rw[hE];rfl) (SK.jy (DL rfl (OL.nil ?_))))))))
  refine SK.jy (ai rfl (OL.nil ?_));refine SK.Ll (SO.Tn (args':=[.ptr 1000 b27 0,.d (iG (bU (ay (ah s (m+1)) vs) (ah s k) ((ah s k).getD i [])))]) (show 38<E.n by rw[hE];exact Nat.le_of_ble_eq_true (by rfl)) rfl vL (Mc:=X7 b27 B (BM (ay (ah s (m+1)) vs) (ah s k) i)) (λid blk hk=>uI (l:=Rn b27 B (BM (ay (ah s (m+1)) vs) (ah s k) i)) (.cons rfl (.cons rfl (.cons rfl (.cons rfl trivial)))) id blk hk) (aZ1 (b:=b27) (B:=B) (Kr spo h2) (k6 i) (dD ..) (by omega) (λj=>Nat.le_trans (zb j) h2)) (λx _ id hk=>UF id hk) ?_)
  rintro B2 -
  rw[WN hi];refine SK.nil (AW.rg hE rfl (aH rfl rfl (by omega) (ai rfl (OL.nil ?_))))
  exact AW.again (x:=(i,B)) (i+1,B2) (by (simp only[];omega)) ⟨by omega,Knows.app .GL .gy,.cons rfl (.cons rfl (.cons rfl (.cons rfl .nil)))⟩
 .try simp only[eG] at h33
  refine AW.exit (AW.seq ?_);obtain rfl:i=(ah s k).length:=by omega
  have hrk:(BM (ay (ah s (m+1)) vs) (ah s k) (ah s k).length).length=Ot s (ay (ah s (m+1)) vs) k:=by unfold Ot BM;rw[List.take_length]
  refine AW.rg hE rfl (DL rfl ?_);refine ag0 (qm:=[.ptr 1000 b27 0]) rfl vL (aZ0 (b:=b27) (B:=B) (rs:=(BM (ay (ah s (m+1)) vs) (ah s k) (ah s k).length))) (λid blk hk=>uI (l:=Rn b27 B (BM (ay (ah s (m+1)) vs) (ah s k) (ah s k).length)) (.cons rfl (.cons rfl (.cons rfl (.cons rfl trivial)))) id blk hk) ?_;rw[hrk];exact aC rfl (aC rfl (OL.nil (AW.ret (aO.r ⟨_,.tmp rfl (.tmp rfl .nil),_,.cons (.le vR) (.cons (.le vR) .nil),rfl⟩))))

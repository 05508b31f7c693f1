/-
  AL, part 40: a struct of five cells by value, opened and laid as data.
-/
import Derived.Test.YtanlenlmihoiiaaGreatDoorKWkBK
import Derived.Lib.SmallJoins
set_option maxRecDepth 8000
set_option maxHeartbeats 12800000
set_option linter.unusedVariables false
set_option linter.unusedSimpArgs false
namespace Go.Proofs.YtanlenlmihoiiaaGreatDoor
open Go Go.AL
theorem ap6 {n N:Nat}(d:Nat->Rat)(c:Nat->Rat)(h:Nat->Nat->Rat):bD (λq=>d q*bD (λj=>c j*h j q) N) n=bD (λj=>c j*bD (λq=>d q*h j q) n) N:=by
 have e1:bD (λq=>d q*bD (λj=>c j*h j q) N) n=bD (λq=>bD (λj=>c j*(d q*h j q)) N) n:=aJ λq _=>by
  rw[<- iq];exact aJ λj _=>by rw[<- Rat.mul_assoc,Rat.mul_comm (d q),Rat.mul_assoc]
 have e2:bD (λj=>c j*bD (λq=>d q*h j q) n) N=bD (λj=>bD (λq=>c j*(d q*h j q)) n) N:=aJ λj _=>(iq ..).symm;rw[e1,e2,pz]
theorem QR {m:bV}{e i s:Nat}(ok:m.Ok)(z:m.Sz e)(g:vV ((aV m).map (aZ m (bL m))))(hi:i<(aV m).length)(hs:s<m.k)(hg:bM (eG ((aV m).map (aZ m (bL m)))) (aZ m (bL m) ((aV m).getD i []++[((s+1:Nat):Int)]))=false) :
  y9 ((aV m).map (aZ m (bL m))) (aZ m (bL m) ((aV m).getD i []++[((s+1:Nat):Int)]))=ul m (aV m) i s:=by
 have pk:=(Vj ok z).1;have hlen:(eG ((aV m).map (aZ m (bL m)))).length=(aV m).length:=by
  have go:∀ k,k<=((aV m).map (aZ m (bL m))).length->(eG (((aV m).map (aZ m (bL m))).take k)).length=k:=λk=>by
   induction k with
   | zero=>intro _;rfl
   | succ k ih=>intro h;rw[Qz (by omega) g,jd,ih (by omega)];rfl
  have h:=go _ (Nat.le_refl _);rw[List.take_length] at h;rw[h,dA]
 have hl:∀ u,u ∈ (aV m).map (aZ m (bL m))->u.length=(bL m).length:=λu hu=>by obtain⟨x,_,rfl⟩:=kK hu;exact fU
 obtain⟨y,hy,hb⟩:=LG (iH ok) z.turn;obtain⟨V,jn,_⟩:=hy.join;rw[hb] at jn;have hcl:(y9 ((aV m).map (aZ m (bL m))) (aZ m (bL m) ((aV m).getD i []++[((s+1:Nat):Int)]))).length=(aV m).length:=by rw[xX,dA]
 refine QI (d:=0) (hcl.trans (by rw[TR];exact hlen.symm)) λj hj=>?_
 rw[hcl] at hj;refine pk.first.only (c:=λj=>(y9 ((aV m).map (aZ m (bL m))) (aZ m (bL m) ((aV m).getD i []++[((s+1:Nat):Int)]))).getD j 0) (d:=λj=>(ul m (aV m) i s).getD j 0) (λl hlw=>?_) hj
 rw[<- aI4 ok z hi hs hlw];obtain⟨d,hd⟩:=Lu ok jn (yJ hlw);have hw:∀ u,yH m (u++l)=bD (λq=>d q*jP m u ((bL m).getD q [])) (bL m).length:=λu=>by
  rw[<- hd u,CQ _ u (yJ hlw),List.reverse_reverse]
 unfold y8;rw[hw,aJ (g:=λj=>(y9 ((aV m).map (aZ m (bL m))) (aZ m (bL m) ((aV m).getD i []++[((s+1:Nat):Int)]))).getD j 0*bD (λq=>d q*jP m ((aV m).getD j []) ((bL m).getD q [])) (bL m).length) λj _=>by
  show _*yH m _=_
  rw[hw],<- ap6]
 refine aJ λq hq=>?_;congr 1;have h:=ap5 g hl fU hg hq;rw[xg hq,dA] at h;rw[h];exact aJ λj hj=>by rw[bh7 (d:=[]) hj,xg hq]
theorem bF5 {i:Nat}:ai P F.FW [.d (dI (if i=0 then 1 else 0)),.d (dI 1)] (vQ (if i=0 then 1 else 0)):=by
 by_cases h:i=0
 .rw[if_pos h,if_pos h];have e:=CW (n:=1) (d:=1) (by decide) (by decide) (by decide)
  rwa [aI0] at e
 .rw[if_neg h,if_neg h];have e:=CW (n:=0) (d:=1) (by decide) (by decide) (by decide)
  rwa [show ((0:Int):Rat) / ((1:Int):Rat)=0 by decide +kernel] at e
theorem aJ0 {a:Au}:lF (Zw a)=ZA a:=by
 have h:pX (vG (ah [a]) (aV (ah [a])))=dK (dK (vG (ah [a]) (aV (ah [a])))):=ap3 λx hx=>by
  obtain⟨i,_,s,_,j,_,rfl⟩:=J9.1 hx;exact Nat.succ_le_succ (Nat.zero_le _)
 unfold lF Zw ZA;rw[h]
theorem aX0 {a:Au}(h:1<=a.sym)(z:(ah [a]).Sz 24)(hK:∀ u,u ∈ aV (ah [a])->u.length<=2)(hnl:(vG (ah [a]) (aV (ah [a]))).length<=20)(hnz:∀ i s j,sz ((ul (ah [a]) (aV (ah [a])) i s).getD j 0)<=134217728):(Zw a).Sz 134217728 20:=by
 have hm:=ag1 h z hK hnl hnz;refine⟨hm.ini,hm.fin,λx hx=>?_,hnl⟩;obtain⟨i,_,s,_,j,_,rfl⟩:=J9.1 hx;exact hnz i s j
section
variable {a:Au}
theorem IU (ok:(ah [a]).Ok)(z:(ah [a]).Sz 24):∃ (mv:bV) (x:y7),IK (ah [a]) mv/\gu mv 69177619 [] x/\x.ks=aV (ah [a])/\x.rs=eG ((aV (ah [a])).map (aZ (ah [a]) (bL (ah [a])))):=by
 obtain⟨y,hy,hb⟩:=LG (iH ok) z.turn;obtain⟨mv,v⟩:=CX ok hy;have hsh:=Ap (iH ok) z.turn;have hm6:=z.n6;have hn:(jU (aA (ah [a]))).length<=(ah [a]).n:=by rw[<- hb];exact hy.b.few.2
 obtain⟨x,hx,hr⟩:=Dc (m:=mv) (B:=69177619) v.ok (by rw[v.n];omega) (by decide) (λw hw h6 i=>by
  rw[v.vec w (by rw[<- v.k];exact hw)]
  exact Ku z h6 (λl hl=>by have h1:l.length<(ah [a]).n:=hsh l hl;omega) i) _ _ _ (gu.start mv 69177619) rfl (Nat.le_refl _)
 have hf:=hy.first ok v hx
 refine⟨mv,x,v,hx,(CY hf).symm,?_⟩;rw[hr,CY hf,List.map_congr_left λu hu=>v.vec u (hf.vF u hu)]
theorem aJ1 (ok:(ah [a]).Ok)(z:(ah [a]).Sz 24):vV ((aV (ah [a])).map (aZ (ah [a]) (bL (ah [a])))):=by
 obtain⟨mv,x,v,hx,hk,hr⟩:=IU ok z;refine Kw _ _ rfl ?_;rw[<- hr,dA,<- hk];exact hx.b.few.1.symm
theorem QS (ok:(ah [a]).Ok)(z:(ah [a]).Sz 24){w:List Int}(hw:iV a.sym w):bM (eG ((aV (ah [a])).map (aZ (ah [a]) (bL (ah [a]))))) (aZ (ah [a]) (bL (ah [a])) w)=false:=by
 obtain⟨mv,x,v,hx,hk,hr⟩:=IU ok z;have hw2:iV (ah [a]).k w:=by rw[xE];exact hw
 rw[<- hr,<- v.vec w hw2];exact QD hx v.ok (by rw[v.k];exact hw2)
theorem aX1 (ok:(ah [a]).Ok)(z:(ah [a]).Sz 24)(h:0<(aV (ah [a])).length):1<=(bL (ah [a])).length:=by
 obtain⟨mv,x,v,hx,hk,hr⟩:=IU ok z;have h1:=hx.b.few.2;rw[v.n,hk] at h1;have h2:(aV (ah [a])).length<=(bL (ah [a])).length:=h1;omega
end
theorem XZ {a:Au}{s:Nat}(k:Au.Rk a s)(s2:s<=2)(st4:a.st<=4)(rk3:rkA a<=3):ai P F.x8 [yV a] (.mM [yV (lF (Zw a)),.d (dI 0)]):=by
 obtain⟨ok,fl,z6,hn⟩:=k.fa.Qe;have hst1:=k.take.st1;have hk:(ah [a]).k=a.sym:=xE;have hs:a.sym=s:=k.take.fit.sym;have hs1:1<=a.sym:=k.take.fit.ok.Jl;obtain⟨pk,pn⟩:=Vj ok z6;have hL:Nu (ah [a]):=C9 ok z6;obtain⟨hl6,hl5,hlw⟩:=hL.len (by omega)
 have hl3:∀ l,l ∈ jU (aA (ah [a]))->l.length<=3:=λl hl=>by
   have h:=Ap (iH ok) z6.turn l hl;have hm:(aA (ah [a])).n=(ah [a]).n:=rfl;omega
 have hk3:(aV (ah [a])).length<=3:=by rw[pk.rank,xE];exact rk3
 have hk2:∀ u,u ∈ (aV (ah [a]))->u.length<=2:=λu hu=>by have:=pk.short u hu;omega
 have hkw:∀ u,u ∈ (aV (ah [a]))->iV a.sym u:=λu hu=>by have:=pk.first.vF u hu;rwa [xE] at this
 have hgb:=aJ1 ok z6;have hvl:((aV (ah [a])).map (aZ (ah [a]) (bL (ah [a])))).length=(aV (ah [a])).length:=dA ..;have hlv:∀ u,u ∈ ((aV (ah [a])).map (aZ (ah [a]) (bL (ah [a]))))->u.length=(bL (ah [a])).length:=λu hu=>by obtain⟨x,_,rfl⟩:=kK hu;exact fU
 have hzs:∀ u,u ∈ ((aV (ah [a])).map (aZ (ah [a]) (bL (ah [a]))))->∀ i,sz (u.getD i 0)<=16777215:=λu hu i=>by obtain⟨x,hx,rfl⟩:=kK hu;exact ug z6 (by have:=hk2 x hx;omega) hl5 i
 refine ai.intro fn.x8 (by rfl) (by rfl) (ay (by rfl)) λE hE=>(AW.sg hE rfl (iO rfl rfl λb1=>(al z.Auto rfl λb2=>(aF rfl (OL.nil (AW.seq (AW.sg hE rfl ?_)))))))
 refine aQ ag.Auto rfl rfl (vs:=[_,_,_,_,_,_,_]) rfl (ay rfl) (bH rfl vL (Qq k.take.fit k.wt) (aF rfl (OL.nil (AW.sg hE rfl (aj rfl (eX rfl rfl (c:=false) (kY rfl) (OL.nil ?_)))))));refine oH rfl ?_;refine AW.skip (AW.sg hE rfl (aQ ag.Auto rfl rfl (vs:=[_,_,_,_,_,_,_]) rfl (ay rfl) (bH rfl vL (Vd (a:=a) k.take.fit k.rz k.fr) (aF rfl (OL.nil (AW.sg hE rfl (aQ ag.Auto rfl rfl (vs:=[_,_,_,_,_,_,_]) rfl (ay rfl) ?_)))))));refine aj rfl (bH rfl vL (MX k (by omega)) (Di rfl (ex rfl rfl (ex rfl rfl (aF rfl (aF rfl (OL.nil ?_)))))))
 refine AW.sg hE rfl (bC fd.jE rfl rfl (aQ ag.Ring rfl rfl (vs:=[_,_]) rfl (ay rfl) (bC fd.lX rfl rfl (aG ce.int rfl rfl rfl (aj rfl (fF sl.gB rfl rfl (L6 (cs:=[_,_,_,_,_,_,_]) z.Auto pl.Auto (lI (by exact X5 rfl) (lI (by exact uG rfl) (lI (by exact uG rfl) (LZ)))) (by rfl) ?_)))))))
 refine al z.Auto rfl λb8=>(fA sz.Auto rfl rfl rfl rfl rfl (ay rfl) (cells2:=[_,_,_,_,_,_,_]) rfl (OL.nil (AW.seq (AW.sg hE rfl (aF rfl (OL.nil (AW.block ?_)))))));refine AW.rf 62 T.aC 8 rfl (AW.rf 67 T.aC 8 rfl (AW.rf 110 T.mX 11 rfl ?_));refine AW.oZ 8 [.d (dI 1),.d (.sl []),.d (dI a.sym),.d (dI (aV (ah [a])).length),.bI 62 0 0 0,.bI 67 0 0 0,.bI 110 0 0 0] rfl (.cons vR (.cons vR (.cons vR (.cons vR (.cons jB (.cons jB (.cons jB .nil))))))) ?_;refine AW.aY (α:=Nat × Nat × Nat × Nat × Nat × Nat × Nat) [(1,_),(2,_),(3,_),(5,_),(6,_),(7,_),(8,_)] [(1,_),(2,_)] (λ(i,bi,ci,bf,cf,ba,ca)=>[(9,.d (dI i))]) (λ(i,bi,ci,bf,cf,ba,ca)=>[(8,.box b8 T.Auto [.d (dI 1),.d (.sl []),.d (dI a.sym),.d (dI (aV (ah [a])).length),.bI 62 bi i ci,.bI 67 bf i cf,.bI 110 ba (J6 (ah [a]) (aV (ah [a])) i).length ca]),(62,.row bi ci T.aC 8 (((BG (aV (ah [a])).length).take i).map dW)),(67,.row bf cf T.aC 8 ((((aV (ah [a])).map (xA a)).take i).map dW)),(110,.row ba ca T.mX 11 ((J6 (ah [a]) (aV (ah [a])) i).map jG))]) (λ(i,bi,ci,bf,cf,ba,ca)=>i<=(aV (ah [a])).length) (λ(i,bi,ci,bf,cf,ba,ca)=>(aV (ah [a])).length-i) (0,0,0,0,0,0,0) (.cons (iw rfl) (.cons (iw rfl) (.cons (di rfl) (.cons (di rfl) (.cons (di rfl) (.cons (di rfl) (.cons (iw rfl) .nil))))))) (.cons (je rfl) (.cons (je rfl) .nil)) ⟨Nat.zero_le _,.dD,.cons rfl (.cons rfl (.cons rfl (.cons rfl .nil)))⟩ ?_
 rintro⟨i,bi,ci,bf,cf,ba,ca⟩ h1
 have h1:i<=(aV (ah [a])).length:=h1;refine AW.seq (AW.sg hE rfl (aj rfl (aj rfl (fF sl.gB rfl rfl (bG rfl rfl rfl (OL.nil (AW.cond rfl (λh42=>?_) (λh42=>?_))))))))
 .try simp only[fD] at h42
  refine AW.skip (AW.seq (AW.block (AW.seq ?_)));have hi:i<(aV (ah [a])).length:=by omega
  have hki:=hk2 _ (getD_mem hi []);have aW1:=hkw _ (getD_mem hi []);refine AW.rg hE rfl (aF rfl (OL.nil ?_));refine AW.YC (α:=Unit) [(1,_),(2,_),(3,_),(5,_),(6,_),(7,_),(8,_),(9,_)] [(1,_),(2,_),(8,_),(62,_),(67,_),(110,_)] (λ_u=>[(10,.d (dI (if i=0 then 1 else 0)))]) (λ_u=>[]) (λ_u=>True) (.cons (iw rfl) (.cons (iw rfl) (.cons (di rfl) (.cons (di rfl) (.cons (di rfl) (.cons (di rfl) (.cons (iw rfl) (.cons (di rfl) .nil)))))))) (.cons (je rfl) (.cons (je rfl) (.cons (je rfl) (.cons (qZ rfl) (.cons (qZ rfl) (.cons (qZ rfl) .nil)))))) ?_ ?_
  .refine AW.sg hE rfl (aj rfl (fG rfl rfl rfl (OL.nil (AW.cond rfl (λh0=>?_) (λh0=>?_)))))
   .have h0:i=0:=by have:=lK h0;omega
    refine AW.rg hE rfl (aF rfl (OL.nil ?_));exact AW.reach () ⟨trivial,Knows.app .rq8 (.cons (bW.int ((if_pos h0).symm)) .nil),dL.app (.cons rfl (.cons rfl (.cons rfl (.cons rfl (.cons rfl (.cons rfl .nil)))))) (.nil)⟩
   .have h0:¬ i=0:=by have:=nZ h0;omega
    refine AW.skip ?_;exact AW.reach () ⟨trivial,Knows.app .rq8 (.cons (bW.int ((if_neg h0).symm)) .nil),dL.app (.cons rfl (.cons rfl (.cons rfl (.cons rfl (.cons rfl (.cons rfl .nil)))))) (.nil)⟩
  rintro⟨⟩ hφ
  refine AW.seq (AW.dg 1 [0,1,2,3,4,5,6,7,8,9,10,11] ak hE rfl (by kernel_rfl) (OI.aK (os:=[_,_,_,_,_,_,_,_,_,_,_,_]) rfl ?_))
  refine aQ ag.Auto rfl rfl (vs:=[_,_,_,_,_,_,_]) rfl (ay rfl) (aj rfl (aj rfl (dR sl.gB [] rfl rfl hi rfl rfl (iE ce.ints rfl (bH rfl vL (aG1 (a:=a) (w:=((aV (ah [a])).getD i [])) k.wt aW1 (by omega)) (Di rfl (ex rfl rfl ?_)))))))
  refine ex rfl rfl (al z.aC rfl λb11=>(fA sz.aC rfl rfl rfl rfl rfl (ay rfl) (cells2:=[_,_,_,_,_,_,_,_]) rfl (aF rfl (OL.nil (AW.seq (AW.dg 2 [0,1,2,3,4,5,7,8,9,10,6,12,11,13,14,15] ak hE rfl (by kernel_rfl) (OI.aK (os:=[_,_,_,_,_,_,_,_,_,_,_,_,_,_,_,_]) rfl ?_)))))))
  refine bC fd.qW rfl rfl (aG ce.aW rfl rfl rfl (aj rfl (bH rfl vL (bF5 (i:=i)) (bd z.aC pl.aC (cs:=[_,_,_,_,_,_,_,_]) rfl (rF (y:=dW (if i=0 then 1 else 0)) sl.aW a02 rfl (by decide) (bC fd.uw rfl rfl (aG ce.aW rfl rfl rfl ?_)))))))
  refine aQ ag.aC rfl rfl (vs:=[_,_,_,_,_,_,_,_]) rfl (ay rfl) (rF (y:=dW (xA a ((aV (ah [a])).getD i []))) sl.aW Nr rfl (by decide) ?_)
  refine xZ sl.aW rfl rfl rfl (by rw[dA,List.length_take,xh];omega) (VC.d _) (λy hy=>by rw[jJ hy];rfl) (by simp only[iY];omega) (by simp only[iY];omega) (.inr rfl) (ys:=((BG (aV (ah [a])).length).take (i+1)).map dW) (by rw[show (BG (aV (ah [a])).length).take (i+1)=(BG (aV (ah [a])).length).take i++[if i=0 then 1 else 0] from XG hi,List.map_append];rfl) (n2:=i+1) rfl λb62 c62=>?_
  refine bC fd.qW rfl rfl ?_;refine xZ sl.aW rfl rfl rfl (by rw[dA,List.length_take,dA];omega) (VC.d _) (λy hy=>by rw[jJ hy];rfl) (by simp only[iY];omega) (by simp only[iY];omega) (.inr rfl) (ys:=(((aV (ah [a])).map (xA a)).take (i+1)).map dW) (by rw[iL 0 (by rw[dA];exact hi),List.map_append,Qx hi];rfl) (n2:=i+1) rfl λb67 c67=>?_
  refine fA sz.aW rfl rfl rfl rfl rfl (ay rfl) (cells2:=[_,_,_,_,_,_,_]) rfl (bC fd.uw rfl rfl (fA sz.aW rfl rfl rfl rfl rfl (ay rfl) (cells2:=[_,_,_,_,_,_,_]) rfl (OL.nil (AW.sg hE rfl (aF rfl (OL.nil (AW.block ?_)))))));refine AW.aY (α:=Nat × Nat × Nat) [(1,_),(2,_),(3,_),(5,_),(6,_),(7,_),(8,_),(9,_)] [(1,_),(2,_),(62,_),(67,_)] (λ(s9,Vg,ca2)=>[(13,.d (dI ((s9:Int)+1)))]) (λ(s9,Vg,ca2)=>[(8,.box b8 T.Auto [.d (dI 1),.d (.sl []),.d (dI a.sym),.d (dI (aV (ah [a])).length),.bI 62 b62 (i+1) c62,.bI 67 b67 (i+1) c67,.bI 110 Vg (LD (ah [a]) (aV (ah [a])) i s9).length ca2]),(110,.row Vg ca2 T.mX 11 ((LD (ah [a]) (aV (ah [a])) i s9).map jG))]) (λ(s9,Vg,ca2)=>s9<=a.sym) (λ(s9,Vg,ca2)=>a.sym-s9) (0,ba,ca) (.cons (iw rfl) (.cons (iw rfl) (.cons (di rfl) (.cons (di rfl) (.cons (di rfl) (.cons (di rfl) (.cons (iw rfl) (.cons (di rfl) .nil)))))))) (.cons (je rfl) (.cons (je rfl) (.cons (qZ rfl) (.cons (qZ rfl) .nil)))) ⟨Nat.zero_le _,.cons (bW.int (by omega)) .nil,.cons (by rw[He];rfl) (.cons (by rw[He];rfl) .nil)⟩ ?_
  rintro⟨s9,Vg,ca2⟩ h2
  have h2:s9<=a.sym:=h2;refine AW.seq (AW.sg hE rfl (aj rfl (bC fd.lX rfl rfl (aG ce.int rfl rfl rfl (yM rfl rfl rfl (OL.nil (AW.cond rfl (λh73=>?_) (λh73=>?_))))))))
  .try simp only[fD] at h73
   refine AW.skip (AW.seq (AW.block (AW.seq ?_)));have hs9:s9<a.sym:=by omega
   have hb1:1<=(bL (ah [a])).length:=aX1 ok z6 (Nat.lt_of_le_of_lt (Nat.zero_le i) hi);have hnw:iV a.sym (((aV (ah [a])).getD i [])++[((s9+1:Nat):Int)]):=λx hx=>by
    rcases uy hx with hx|hx
    .exact aW1 x hx
    .rw[jJ hx];omega
   have hcl:(ul (ah [a]) (aV (ah [a])) i s9).length=(aV (ah [a])).length:=by rw[<- QR ok z6 hgb hi (by omega) (QS ok z6 hnw),xX,hvl]
   refine AW.dg 1 [0,1,2,3,4,5,6,7,8,9,10,11,12,13,14,15,16,17,18] ak hE rfl (by kernel_rfl) (OI.aK (os:=[_,_,_,_,_,_,_,_,_,_,_,_,_,_,_,_,_,_,_]) rfl ?_)
   refine aj rfl (aQ ag.Auto rfl rfl (vs:=[_,_,_,_,_,_,_]) rfl (ay rfl) (aj rfl (aj rfl (aj rfl (dR sl.gB [] rfl rfl hi rfl rfl (iE ce.ints rfl (aj rfl ?_)))))));refine rF (y:=dI ((s9:Int)+1)) sl.ints (VC.d _).vd rfl (by decide) (bH rfl vL (Vb (w:=((aV (ah [a])).getD i [])) (u:=[(s9:Int)+1]) (by omega) (ay rfl)) ?_)
   refine bH rfl vL (aH0 (w:=(((aV (ah [a])).getD i [])++[((s9+1:Nat):Int)])) k hnw (by rw[jd,iY];omega) (show (bL (ah [a])).length<=6 by omega) (λl hl=>Nat.le_succ_of_le (hl5 l hl))) ?_
   refine bH rfl vL (TU hgb hlv (by omega) (by omega) hzs hb1 fU (λi=>ug z6 (by rw[jd,iY];omega) hl5 i) (QS ok z6 hnw)) ?_
   rw[QR ok z6 hgb hi (by omega) (QS ok z6 hnw)]
   refine Di rfl (ex rfl rfl (ex rfl rfl (ex rfl rfl (aF rfl (aF rfl (aF rfl (OL.nil ?_)))))));refine AW.sg hE rfl (aF rfl (OL.nil (AW.block ?_)));refine AW.aY (α:=Nat × Nat × Nat) [(1,_),(2,_),(3,_),(5,_),(6,_),(7,_),(8,_),(9,_),(13,_),(14,_)] [(1,_),(2,_),(62,_),(67,_)] (λ(j,XI,ca3)=>[(17,.d (dI j))]) (λ(j,XI,ca3)=>[(8,.box b8 T.Auto [.d (dI 1),.d (.sl []),.d (dI a.sym),.d (dI (aV (ah [a])).length),.bI 62 b62 (i+1) c62,.bI 67 b67 (i+1) c67,.bI 110 XI (H7 (ah [a]) (aV (ah [a])) i s9 j).length ca3]),(110,.row XI ca3 T.mX 11 ((H7 (ah [a]) (aV (ah [a])) i s9 j).map jG))]) (λ(j,XI,ca3)=>j<=(aV (ah [a])).length) (λ(j,XI,ca3)=>(aV (ah [a])).length-j) (0,Vg,ca2) (.cons (iw rfl) (.cons (iw rfl) (.cons (di rfl) (.cons (di rfl) (.cons (di rfl) (.cons (di rfl) (.cons (iw rfl) (.cons (di rfl) (.cons (di rfl) (.cons (di rfl) .nil)))))))))) (.cons (je rfl) (.cons (je rfl) (.cons (qZ rfl) (.cons (qZ rfl) .nil)))) ⟨Nat.zero_le _,.dD,.cons (by rw[G9];rfl) (.cons (by rw[G9];rfl) .nil)⟩ ?_
   rintro⟨j,XI,ca3⟩ h3
   have h3:j<=(aV (ah [a])).length:=h3;have hzl:=XE (m:=(ah [a])) (K:=(aV (ah [a]))) (i:=i) (s:=s9) (j:=j);have hm1:=Nat.mul_le_mul (show (ah [a]).k<=2 by omega) hk3
   have hm2:=Nat.mul_le_mul (show i<=3 by omega) hm1
   have hm3:=Nat.mul_le_mul (show s9<=2 by omega) hk3
   refine AW.seq (AW.sg hE rfl (aj rfl (aj rfl (fF sl.bg rfl rfl ?_))));rw[hcl];refine bG rfl rfl rfl (OL.nil (AW.cond rfl (λh95=>?_) (λh95=>?_)))
   .try simp only[fD] at h95
    refine AW.skip (AW.seq (AW.block ?_));have hj:j<(aV (ah [a])).length:=by omega
    refine AW.dg 2 [0,1,2,3,4,5,6,7,8,9,10,11,12,13,14] ak hE rfl (by kernel_rfl) (OI.aK (os:=[_,_,_,_,_,_,_,_,_,_,_,_,_,_,_]) rfl ?_)
    refine bC fd.gK rfl rfl (aG ce.dm rfl rfl rfl (aj rfl (aj rfl (aj rfl (aj rfl (aj rfl (dR sl.bg 0 rfl rfl (by omega) rfl rfl ?_)))))))
    refine iD ag.Rat rfl (vs:=[_,_,_]) rfl (ay rfl) (bd z.aC pl.aC (cs:=[_,_,_,_,_,_,_,_]) rfl (L6 (cs:=[_,_,_,_,_,_,_,_,_,_,_]) z.mX pl.mX (lI (by exact uG rfl) (lI (by exact uG rfl) (lI (by exact uG rfl) (lI (by exact X5 rfl) (LZ))))) (by rfl) (rF (y:=jG (Qu (ah [a]) (aV (ah [a])) i s9 j)) sl.dm (ag0 (x:=(Qu (ah [a]) (aV (ah [a])) i s9 j))) rfl (by decide) ?_)))
    refine xZ sl.dm rfl rfl rfl (dA ..).symm (VC.d _) (λy hy=>by rw[jJ hy];rfl) (by simp only[iY];omega) (by simp only[iY];omega) (.inr rfl) (ys:=(H7 (ah [a]) (aV (ah [a])) i s9 (j+1)).map jG) (by rw[G8,List.map_append];rfl) (n2:=(H7 (ah [a]) (aV (ah [a])) i s9 (j+1)).length) (by rw[G8,jd];rfl) λbh0 bh2=>?_
    refine bC fd.gK rfl rfl (fA sz.dm rfl rfl rfl rfl rfl (ay rfl) (cells2:=[_,_,_,_,_,_,_]) rfl (OL.nil (AW.rg hE rfl (aj rfl (aI rfl rfl (by omega) (aF rfl (OL.nil ?_)))))))
    exact AW.again (x:=(j,XI,ca3)) (j+1,bh0,bh2) (by (simp only[];omega)) ⟨by omega,Knows.app .Um .dD,dL.app (.cons rfl (.cons rfl (.cons rfl (.cons rfl .nil)))) (.cons rfl (.cons rfl .nil))⟩
   .try simp only[fD] at h95
    refine AW.exit ?_;obtain rfl:j=(aV (ah [a])).length:=by omega
    refine AW.rg hE rfl (aj rfl (aI rfl rfl (by omega) (aF rfl (OL.nil ?_))))
    exact AW.again (x:=(s9,Vg,ca2)) (s9+1,XI,ca3) (by (simp only[];omega)) ⟨by omega,Knows.app .rq8 (.cons (bW.int (by omega)) .nil),dL.app (.cons rfl (.cons rfl (.cons rfl (.cons rfl .nil)))) (.cons (by rw[<- J7];rfl) (.cons (by rw[<- J7];rfl) .nil))⟩
  .try simp only[fD] at h73
   refine AW.exit ?_;obtain rfl:s9=a.sym:=by omega
   refine AW.rg hE rfl (aj rfl (aI rfl rfl (by omega) (aF rfl (OL.nil ?_))))
   exact AW.again (x:=(i,bi,ci,bf,cf,ba,ca)) (i+1,b62,c62,b67,c67,Vg,ca2) (by (simp only[];omega)) ⟨by omega,Knows.app .rq7 .dD,dL.app (.cons rfl (.cons rfl .nil)) (.cons (by rw[<- J8,hk];rfl) (.cons rfl (.cons rfl (.cons (by rw[<- J8,hk];rfl) .nil))))⟩
 .try simp only[fD] at h42
  refine AW.exit (AW.seq ?_);obtain rfl:i=(aV (ah [a])).length:=by omega
  have hnl:(vG (ah [a]) (aV (ah [a]))).length<=20:=by
   rw[<- Qv,Kq];have hm1:=Nat.mul_le_mul (show (ah [a]).k<=2 by omega) hk3
   have hm2:=Nat.mul_le_mul hk3 hm1;omega
  have hnc:∀ i s9 j,sz ((ul (ah [a]) (aV (ah [a])) i s9).getD j 0)<=134217728:=λi s9 j=>Qw z6 hl3 hk2 hk3 (Nat.le_trans (Gt _ _ rfl) (by rw[dA];exact hk3)) i s9 j
  have hmo:=af9 (a:=a) hs1;have hms:=aX0 hs1 z6 hk2 hnl hnc;refine AW.freeze 62 rfl (AW.oZ 8 [.d (dI 1),.d (.sl []),.d (dI a.sym),.d (dI (aV (ah [a])).length),.d (qG (BG (aV (ah [a])).length)),.bI 67 bf (aV (ah [a])).length cf,.bI 110 ba (J6 (ah [a]) (aV (ah [a])) (aV (ah [a])).length).length ca] rfl (.cons vR (.cons vR (.cons vR (.cons vR (.cons (dP (by rw[dA,List.length_take,xh];omega) (by rw[List.take_of_length_le (by rw[xh];exact Nat.le_refl _)])) .iW))))) ?_)
  refine AW.freeze 67 rfl (AW.oZ 8 [.d (dI 1),.d (.sl []),.d (dI a.sym),.d (dI (aV (ah [a])).length),.d (qG (BG (aV (ah [a])).length)),.d (qG ((aV (ah [a])).map (xA a))),.bI 110 ba (J6 (ah [a]) (aV (ah [a])) (aV (ah [a])).length).length ca] rfl (.cons vR (.cons vR (.cons vR (.cons vR (.cons vR (.cons (dP (by rw[dA,List.length_take,dA];omega) (by rw[List.take_of_length_le (by rw[dA];exact Nat.le_refl _)])) .dD)))))) ?_)
  refine AW.freeze 110 rfl (AW.oZ 8 [.d (dI 1),.d (.sl []),.d (dI a.sym),.d (dI (aV (ah [a])).length),.d (qG (BG (aV (ah [a])).length)),.d (qG ((aV (ah [a])).map (xA a))),.d (jW (vG (ah [a]) (aV (ah [a]))))] rfl (.cons vR (.cons vR (.cons vR (.cons vR (.cons vR (.cons vR (.cons (dP (dA ..).symm rfl) .nil))))))) ?_);refine AW.rg hE rfl (aQ ag.Auto rfl rfl (vs:=[_,_,_,_,_,_,_]) rfl (ay rfl) (bH rfl vL (Lp (a:=Zw a) hmo hms (by show (aV (ah [a])).length<=64;omega)) (fA sz.Auto rfl rfl rfl rfl rfl (ay rfl) (cells2:=[_,_,_,_,_,_,_]) rfl (OL.nil (AW.seq (AW.seq ?_))))))
  have htl:(lF (Zw a)).aN.length<=20:=Nat.le_trans (tZ _) hnl;refine AW.rg hE rfl (bC fd.gK rfl rfl (aG ce.dm rfl rfl rfl (fF sl.dm rfl rfl (jI rfl rfl (c:=false) (decide_eq_false (by omega)) (OL.nil (oH rfl ?_))))))
  refine AW.skip (AW.sg hE rfl (aQ ag.Auto rfl rfl (vs:=[_,_,_,_,_,_,_]) rfl (ay rfl) (fA sz.Auto rfl rfl rfl rfl rfl (ay rfl) (cells2:=[_,_,_,_,_,_,_]) rfl (aF rfl (OL.nil ?_)))));exact AW.ret (aP.r ⟨_,.dN rfl rfl ag.Auto (ay rfl) (.tmp rfl .nil),_,.cons (.ag (.cons (.le vR) (.cons (.le vR) (.cons (.le vR) (.cons (.le vR) (.cons (.le vR) (.cons (.le vR) (.cons (.le vR) .nil)))))))) (.cons (.le vR) .nil),rfl⟩)
theorem bu6 {b:Au}(ok:b.Ok)(few:b.Few)(s4:b.sym<=4)(s1:1<=b.st)(n20:b.aN.length<=20):(lF b).Fw :=
 ⟨ok.form,few.form,s4,s1,λx hx=>by
  have h:=Bv (QN b.aN) hx (ok.form.arc x hx).2.2.1;rw[<- h];exact Nat.le_trans (few.form.ent _ _ _) (by decide),Nat.le_trans (tZ _) n20⟩
theorem NW {b:Au}:(pJ b).aN.length<=b.aN.length:=Nat.le_trans (tZ _) (by rw[dA];exact Nat.le_refl _)
theorem ag4 {b:Au}(ok:b.Ok)(few:b.Few)(n20:b.aN.length<=20):(pJ b).Sz 134217728 20 :=
 ⟨λq hq=>Nat.le_trans (few.rev.ini q hq) (by decide),λq hq=>Nat.le_trans (few.rev.fin q hq) (by decide),λx hx=>by
  have h:=Bv (QN _) hx (ok.rev.arc x hx).2.2.1;rw[<- h];exact Nat.le_trans (few.rev.ent _ _ _) (by decide),Nat.le_trans NW n20⟩
theorem aX2 {m:lZ}:Au.Sx (dZ m 2 3) 2:=by
 have t:=lN (m:=m);have h3:=Kt (m:=m);have n20:(dZ m 2 3).aN.length<=20:=Nat.le_trans zV.num (by decide)
 refine⟨Vh,⟨t.fit.ok.rev,ag4 t.fit.ok t.few n20,rfl,(show 2<=32 by decide),t.fit.st⟩,ag4 t.fit.ok.rev t.few.rev (Nat.le_trans NW n20),bu6 t.fit.ok.rev.rev t.few.rev.rev (show 2<=4 by decide) h3.1 (Nat.le_trans NW (Nat.le_trans NW n20))⟩
theorem QT {l:List (List Int)}(nl:l.length<=64)(hl:∀ u,u ∈ l->u.length<=64):ai P F.uT [.d (.sl (l.map ints)),.d (.sl (l.map ints))] (.d (dB true)):=by
 refine ai.intro fn.uT (by rfl) (by rfl) (ay (by rfl)) λE hE=>(AW.sg hE rfl (aF rfl (OL.nil (AW.seq (AW.sg hE rfl (aj rfl (fF sl.gB rfl rfl ?_)))))))
 refine aj rfl (fF sl.gB rfl rfl (eX rfl rfl (c:=false) (kY rfl) (OL.nil (oH rfl ?_))));refine AW.skip (AW.seq (AW.sg hE rfl (aF rfl (OL.nil (AW.block (AW.aY (α:=Nat) [(0,_),(1,_)] [] (λi=>[(5,.d (dI i))]) (λi=>[]) (λi=>i<=l.length) (λi=>l.length-i) 0 (.cons (di rfl) (.cons (di rfl) .nil)) .nil ⟨Nat.zero_le _,.dD,.nil⟩ ?_))))))
 rintro i h1
 have h1:i<=l.length:=h1;refine AW.seq (AW.sg hE rfl (aj rfl (aj rfl (fF sl.gB rfl rfl (bG rfl rfl rfl (OL.nil (AW.cond rfl (λCO=>?_) (λCO=>?_))))))))
 .try simp only[fD] at CO
  refine AW.skip (AW.seq (AW.block (AW.seq ?_)));have hi:i<l.length:=by omega
  refine AW.dg 1 [0,1,2,3,4,5,6,7,8,9] ak hE rfl (by kernel_rfl) (OI.aK (os:=[_,_,_,_,_,_,_,_,_,_]) rfl ?_)
  refine aj rfl (aj rfl (dR sl.gB [] rfl rfl hi rfl rfl (iE ce.ints rfl (aj rfl (aj rfl (dR sl.gB [] rfl rfl hi rfl rfl (iE ce.ints rfl ?_)))))));refine bH rfl vL (aU1 (l:=l.getD i []) (m:=l.getD i []) (Nat.le_trans (hl _ (getD_mem hi [])) (by decide)) rfl) (nt rfl (OL.nil (oH rfl ?_)))
  exact AW.skip (AW.rg hE rfl (aj rfl (aI rfl rfl (by omega) (aF rfl (OL.nil (AW.again (x:=i) (i+1) (by omega) ⟨by omega,Knows.app .iW .dD,.nil⟩))))))
 .try simp only[fD] at CO
  exact AW.exit (AW.sg hE rfl (aF rfl (OL.nil (AW.ret (aP.r ⟨_,.tmp rfl .nil,.le vR⟩)))))
theorem zW {m:lZ}{e1:Bool}(ha1:m.ini.length<=9223372036854775807)(ha2:m.fin.length<=9223372036854775807)(ha3:m.aN.length<=9223372036854775807):ai P F.ja [U7 m e1] (.d (dB true)):=by
 obtain⟨pk,sk,pl,sl9,r3⟩:=wds m;have hm3:=bt8 m;have hps:∀ u,u ∈ (aV (ah [(dZ m 2 3)]))->u.length<=2:=λu hu=>by have:=pk.short u hu;omega
 have hss:∀ u,u ∈ (FB (ah [(dZ m 2 3)]))->u.length<=2:=λu hu=>by have:=sk.short u hu;omega
 refine ai.intro fn.ja (by rfl) (by rfl) (ay (by rfl)) λE hE=>(AW.sg hE rfl (iO rfl rfl λb1=>(aF rfl (OL.nil (AW.sg hE rfl (aQ ag.Model rfl rfl (vs:=[_,_,_,_,_]) rfl (ay rfl) (bH rfl vL (vJ (m:=m) ha1 ha2 ha3) ?_)))))))
 refine al z.Auto rfl λb3=>(fA sz.Auto rfl rfl rfl rfl rfl (ay rfl) (cells2:=[_,_,_,_,_,_,_]) rfl (OL.nil (AW.sg hE rfl (aQ ag.Auto rfl rfl (vs:=[_,_,_,_,_,_,_]) rfl (ay rfl) (bH rfl vL (ao0 (a:=(dZ m 2 3)) lN (by decide) (by omega)) (Di rfl (ex rfl rfl ?_)))))))
 refine ex rfl rfl (aF rfl (aF rfl (OL.nil (AW.sg hE rfl (aQ ag.Auto rfl rfl (vs:=[_,_,_,_,_,_,_]) rfl (ay rfl) (bH rfl vL (XR (a:=(dZ m 2 3)) Vh (by omega)) (Di rfl ?_)))))))
 refine ex rfl rfl (ex rfl rfl (aF rfl (aF rfl (OL.nil (AW.sg hE rfl (aQ ag.Auto rfl rfl (vs:=[_,_,_,_,_,_,_]) rfl (ay rfl) (bH rfl vL (ao1 (a:=(dZ m 2 3)) lN (by decide) (by decide) (by omega)) ?_)))))))
 refine Di rfl (ex rfl rfl (ex rfl rfl (aF rfl (aF rfl (OL.nil (AW.sg hE rfl (aQ ag.Auto rfl rfl (vs:=[_,_,_,_,_,_,_]) rfl (ay rfl) ?_)))))));refine bH rfl vL (XT (a:=(dZ m 2 3)) aX2 (by omega)) (Di rfl (ex rfl rfl (ex rfl rfl (aF rfl (aF rfl (OL.nil (AW.sg hE rfl ?_)))))))
 refine aQ ag.Auto rfl rfl (vs:=[_,_,_,_,_,_,_]) rfl (ay rfl) (bH rfl vL (bF3 (m:=m)) (Di rfl (ex rfl rfl (ex rfl rfl (al z.Auto rfl λb12=>(fA sz.Auto rfl rfl rfl rfl rfl (ay rfl) (cells2:=[_,_,_,_,_,_,_]) rfl (aF rfl ?_)))))));refine OL.nil (AW.sg hE rfl (aQ ag.Auto rfl rfl (vs:=[_,_,_,_,_,_,_]) rfl (ay rfl) (bH rfl vL (XZ (a:=(dZ m 2 3)) Vh (by decide) (by omega) r3) ?_)))
 rw[aJ0];refine Di rfl (ex rfl rfl (ex rfl rfl (al z.Auto rfl λb14=>(fA sz.Auto rfl rfl rfl rfl rfl (ay rfl) (cells2:=[_,_,_,_,_,_,_]) rfl (aF rfl (OL.nil (AW.sg hE rfl ?_)))))));refine bH rfl (.nil) (vK) (aj rfl (OL.yes rfl (aj rfl (OL.yes rfl (aj rfl (OL.yes rfl (bH rfl vL (QT (l:=(aV (ah [(dZ m 2 3)]))) (Nat.le_trans (show (aV (ah [(dZ m 2 3)])).length<=3 by omega) (by decide)) (λu hu=>Nat.le_trans (hps u hu) (by decide))) ?_)))))))
 refine oK rfl rfl (aj rfl (OL.yes rfl (aj rfl (OL.yes rfl (aj rfl (OL.yes rfl (fG rfl rfl (c:=true) (decide_eq_true rfl) ?_)))))));refine oK rfl rfl (aj rfl (OL.yes rfl (aj rfl (OL.yes rfl (aj rfl (OL.yes rfl (bH rfl vL (QT (l:=(FB (ah [(dZ m 2 3)]))) (Nat.le_trans (show (FB (ah [(dZ m 2 3)])).length<=3 by omega) (by decide)) (λu hu=>Nat.le_trans (hss u hu) (by decide))) ?_)))))))
 refine oK rfl rfl (aj rfl (OL.yes rfl (aj rfl (OL.yes rfl (aj rfl (OL.yes rfl (fG rfl rfl (c:=true) (decide_eq_true rfl) ?_)))))));refine oK rfl rfl (aj rfl (OL.yes rfl (aQ ag.Auto rfl rfl (vs:=[_,_,_,_,_,_,_]) rfl (ay rfl) (OL.yes rfl (aQ ag.Auto rfl rfl (vs:=[_,_,_,_,_,_,_]) rfl (ay rfl) (OL.yes rfl (bH rfl vL (bi0 (v:=true) ⟨λ_=>rfl,λ_=>rfl⟩ (XU (m:=m)) XU rfl) ?_)))))));refine oK rfl rfl (aj rfl (OL.yes rfl (aj rfl (OL.yes rfl (aj rfl (OL.yes rfl (fG rfl rfl (c:=true) (decide_eq_true rfl) ?_)))))));exact oK rfl rfl (aF rfl (OL.nil (AW.ret (aP.r ⟨_,.tmp rfl .nil,.le vR⟩))))
end Go.Proofs.YtanlenlmihoiiaaGreatDoor
namespace Go.AL
open Go Go.BigFrame Go.RowKit Go.ChangeShapes Go.WideShapes Go.ChangeAt Go.Joins Go.Deep
theorem bi1 {α:Type}{cs:Array α}(h:cs.size=5):∃ c0 c1 c2 c3 c4,cs = #[c0,c1,c2,c3,c4]:=by
 obtain⟨l⟩:=cs
 match l,h with
 | [c0,c1,c2,c3,c4],_=>exact⟨c0,c1,c2,c3,c4,rfl⟩
section
variable {H:Type}{enc:TypeId × Value->H}{P:Program}{w:World}{base:Nat}{spare:Nat->Bool}{held:Bool}
theorem Vo {t:TypeId}{f0 f1 f2 f3 f4:Field}{fuel:Nat}{cs:List Value}{x:DataW H × List MemPlace}(ht:P.underlying t=some (.struct #[f0,f1,f2,f3,f4]))(h:DataW.trod enc P w base spare held fuel t cs=some x) :
  ∃ y0 y1 y2 y3 y4 n,x=(.agg [y0.1,y1.1,y2.1,y3.1,y4.1],y0.2++(y1.2++(y2.2++(y3.2++y4.2))))/\cs.length=P.cellsOf t/\DataW.trod enc P w base spare held n f0.type ((cs.drop f0.offset).take (P.cellsOf f0.type))=some y0 /\
   DataW.trod enc P w base spare held n f1.type ((cs.drop f1.offset).take (P.cellsOf f1.type))=some y1/\DataW.trod enc P w base spare held n f2.type ((cs.drop f2.offset).take (P.cellsOf f2.type))=some y2 /\
   DataW.trod enc P w base spare held n f3.type ((cs.drop f3.offset).take (P.cellsOf f3.type))=some y3/\DataW.trod enc P w base spare held n f4.type ((cs.drop f4.offset).take (P.cellsOf f4.type))=some y4:=by
 obtain⟨xs,n,_,rfl,hl,hlen,hf⟩:=DataW.trod_struct ht h
 match xs,hlen with
 | [y0,y1,y2,y3,y4],_=>exact⟨y0,y1,y2,y3,y4,n,by simp,hl,by simpa using hf 0 f0 rfl,by simpa using hf 1 f1 rfl,by simpa using hf 2 f2 rfl,by simpa using hf 3 f3 rfl,by simpa using hf 4 f4 rfl⟩
theorem ap7 {r:Reach}{b0:Nat}{t:TypeId}{f0 f1 f2 f3 f4:Field}{v:Value}{d:DataW H}{p:List MemPlace}(hs:P.underlying t=some (.struct #[f0,f1,f2,f3,f4]))(hone:oneCellFields P #[f0,f1,f2,f3,f4]=true)(hC:P.cellsOf t=5)
  (hv:Value.okWide P w r b0 t v) (h:DataW.Trod enc P w base spare held t v d p) :
  ∃ (v0 v1 v2 v3 v4:Value) (y0 y1 y2 y3 y4:DataW H × List MemPlace) (n:Nat),v=.agg #[v0,v1,v2,v3,v4] /\
   DataW.trod enc P w base spare held n f0.type [v0]=some y0/\DataW.trod enc P w base spare held n f1.type [v1]=some y1/\DataW.trod enc P w base spare held n f2.type [v2]=some y2/\DataW.trod enc P w base spare held n f3.type [v3]=some y3/\DataW.trod enc P w base spare held n f4.type [v4]=some y4:=by
 obtain⟨cs,rfl,hsz⟩:=okWide_struct hs hv;obtain⟨c0,c1,c2,c3,c4,rfl⟩:=bi1 (hsz.trans hC);obtain⟨fuel,hf⟩:=h;obtain⟨y0,y1,y2,y3,y4,n,hx,_,h0,h1,h2,h3,h4⟩:=Vo hs hf;obtain⟨o0,k0⟩:=hone_of hone 0 f0 rfl;obtain⟨o1,k1⟩:=hone_of hone 1 f1 rfl;obtain⟨o2,k2⟩:=hone_of hone 2 f2 rfl;obtain⟨o3,k3⟩:=hone_of hone 3 f3 rfl;obtain⟨o4,k4⟩:=hone_of hone 4 f4 rfl;exact⟨c0,c1,c2,c3,c4,y0,y1,y2,y3,y4,n,rfl,by simpa [Value.cells,o0,k0] using h0,by simpa [Value.cells,o1,k1] using h1,by simpa [Value.cells,o2,k2] using h2,by simpa [Value.cells,o3,k3] using h3,by simpa [Value.cells,o4,k4] using h4⟩
end
theorem ap8 {P:Program}{H:Type}{enc:TypeId × Value->H}{w:World}{base fuel:Nat}{spare:Nat->Bool}{held:Bool}{t:TypeId}{v:Value}{x:DataW H × List MemPlace}(ht:P.underlying t=some .bool)
  (h:DataW.trod enc P w base spare held fuel t [v]=some x):∃ b,v=.bool b:=by
 obtain⟨b,h1,_⟩:=DataW.trod_bool ht h;simp at h1;exact⟨b,h1⟩
theorem ap9 {F:Hp}{u0 u1 u2 u3 u4:Value}{x0 x1 x2 x3 x4:D}(h0:dF F u0 (.d x0))(h1:dF F u1 (.d x1))(h2:dF F u2 (.d x2))(h3:dF F u3 (.d x3))(h4:dF F u4 (.d x4)):dF F (.agg #[u0,u1,u2,u3,u4]) (.ag [.d x0,.d x1,.d x2,.d x3,.d x4]):=by
 have h:=xM h0 (xM h1 (xM h2 (xM h3 (xM h4 Ry))));refine .ag (us:=[u0,u1,u2,u3,u4]) h.1 (λu hu=>?_) h.2;simp only[List.mem_cons,List.not_mem_nil,or_false] at hu;rcases hu with rfl|rfl|rfl|rfl|rfl
 .exact h0.one
 .exact h1.one
 .exact h2.one
 .exact h3.one
 .exact h4.one

/-
  AL, part 44: a region whose order is open, by all of its orders, with calls that hand back owned blocks.
-/
import Derived.Test.YtanlenlmihoiiaaGreatDoorKMod105
set_option linter.unusedVariables false
set_option linter.unusedSimpArgs false
namespace Go.Proofs.YtanlenlmihoiiaaGreatDoor
open Go Go.AL
abbrev cW (q:Rat):List V:=[.d (dB (iD q).neg),.d (aI (iD q).num),.d (aI (iD q).den),.d (dI 0),.d (dB false),.d (dU 0),.d (.sl []),.d (.sl [])]
theorem aV9:fK [.d (dB false),.mt,.mt,.d (dI 0),.d (dB false),.d (dU 0),.mt,.mt] (cW 0):=by
 unfold cW;rw[rG];exact .cons vR (.cons bV.mt (.cons bV.mt (.cons vR (.cons vR (.cons vR (.cons bV.mt (.cons bV.mt .nil)))))))
theorem aW0 {q:Rat}:fK [.d (dB (iD q).neg),.d (aI (iD q).num),.d (aI (iD q).den),.d (dI 0),.d (dB false),.d (dU 0),.mt,.mt] (cW q):=.cons vR (.cons vR (.cons vR (.cons vR (.cons vR (.cons vR (.cons bV.mt (.cons bV.mt .nil)))))))
theorem bt6 {q:Rat}:VD (.ag [.d (dB (iD q).neg),.d (aI (iD q).num),.d (aI (iD q).den),.d (dI 0),.d (dB false),.d (dU 0),.mt,.mt]) (dW q) :=
 VD.ag (.cons (VC.d _) (.cons (VC.d _) (.cons (VC.d _) (.cons (VC.d _) (.cons (VC.d _) (.cons (VC.d _) (.cons VC.mt (.cons VC.mt .nil))))))))
theorem aW1 {x:bM}:VD (.ag [.d (dI x.f),.d (dI x.l),.d (dI x.t),.d (dB (iD x.q).neg),.d (aI (iD x.q).num),.d (aI (iD x.q).den),.d (dI 0),.d (dB false),.d (dU 0),.mt,.mt]) (jv x) :=
 VD.ag (.cons (VC.d _) (.cons (VC.d _) (.cons (VC.d _) (.cons (VC.d _) (.cons (VC.d _) (.cons (VC.d _) (.cons (VC.d _) (.cons (VC.d _) (.cons (VC.d _) (.cons VC.mt (.cons VC.mt .nil)))))))))))
theorem aG8 {f:Nat->Rat}{n i:Nat}(h:i<n):(((List.range n).map f).take (i+1))=((List.range n).map f).take i++[f i]:=by
 rw[iV 0 (by simp;exact h),aO _ _ h]
theorem am3 {mv:bQ}{B:Nat}{y:BK}(h:iw mv B [] y){w:List Int}(hw:iy mv.k w)(ok:mv.Ok):bW y.rs (aZ mv w)=false:=by
 obtain⟨V,j,_⟩:=h.join;refine (zh j.ech (lu ok w)).2 ((j.EO.reach w hw λq hq=>by cases hq).trans λb hb=>?_)
 obtain⟨u,hu,rfl⟩:=jH hb;exact j.kept u (eY.1 hu).1
theorem Y4 {a:Au}{K:List (List Int)}{i:Nat}(hi:i<K.length):(K.map (kQ a)).getD i 0=kQ a (K.getD i []):=by
 rw[iO,List.getElem?_map,lF hi,iO,lF hi];rfl
theorem Iz {a:Au}(h:1<=a.sym):∀ x,x ∈ dF (qV (ah [a]) (bn (ah [a])))->x.f<(bn (ah [a])).length/\x.t<(bn (ah [a])).length/\1<=x.l/\x.l<=a.sym :=
 gK.tidy (p:=λf l t=>f<(bn (ah [a])).length/\t<(bn (ah [a])).length/\1<=l/\l<=a.sym) (aV8 h).arc
theorem aW2 {a:Au}(h:1<=a.sym):(⟨a.sym,(bn (ah [a])).length,EP (bn (ah [a])).length,(bn (ah [a])).map (kQ a),dF (qV (ah [a]) (bn (ah [a])))⟩:Au).Ok :=
 ⟨h,Ai,dL ..,Iz h⟩
theorem am4 {a:Au}(h:1<=a.sym){x:bM}(hx:x ∈ dF (qV (ah [a]) (bn (ah [a])))):x.q=(lD (ah [a]) (bn (ah [a])) x.f (x.l-1)).getD x.t 0:=by
 obtain⟨h1,h2,h3,h4⟩:=Iz h x hx;rw[<- FK (FI _) hx h3,vK];exact JY (by rw[tY];omega) h1 h2
theorem aW3 {a:Au}(h:1<=a.sym)(z:(ah [a]).Sz 24)(hK:∀ u,u ∈ bn (ah [a])->u.length<=2)(hnl:(qV (ah [a]) (bn (ah [a]))).length<=20)(hnz:∀ i s j,sz ((lD (ah [a]) (bn (ah [a])) i s).getD j 0)<=134217728):(⟨a.sym,(bn (ah [a])).length,EP (bn (ah [a])).length,(bn (ah [a])).map (kQ a),dF (qV (ah [a]) (bn (ah [a])))⟩:Au).Sz 134217728 20:=by
 refine⟨λq hq=>?_,λq hq=>?_,λx hx=>?_,Nat.le_trans (zn _) hnl⟩
 .obtain⟨i,_,rfl⟩:=jH hq;by_cases h0:i=0
  .rw[if_pos h0,yG];decide
  .rw[if_neg h0,fH];decide
 .obtain⟨u,hu,rfl⟩:=jH hq;show sz (mZ _ _ _)<=_
  have h:=KH (n:=(ah [a]).n) (u:=vf (aZ (ah [a]) u)) (v:=vf (ah [a]).fin) z.n6 (λi=>mV z (by have:=hK u hu;omega) i) z.fin
  exact Nat.le_trans h (by decide)
 .rw[am4 h hx];exact hnz _ _ _
theorem bt7 {v:List Rat}{n b:Nat}{B:P7}{rs:List dh}(sp:qU n 16777215 rs)(hv:v.length=n)(n6:n<=6)(zv:∀ i,sz (v.getD i 0)<=16777215)(hg:bW rs v=false):fQ P F.uI [.ptr 1000 b 0,.d (gm v)] (spM b B rs) (.oM [.d (gm (jU rs v)),.d (dB true)]) (spM b B rs):=by
 have hle:=sp.le;obtain⟨zl,zt⟩:=sp.sz.last (w:=v) (by omega) zv
 have hvl:(bC rs v).length=v.length:=mD _ _;refine fQ.intro fn.uI (by rfl) (by rfl) (au (by rfl)) λE hE=>(AW.sg hE rfl (nI rfl (aG rfl (OL.nil (AW.sg hE rfl (Zl rfl (aj rfl ?_)))))))
 refine X3 (oJ:=[.ptr 1000 b 0,.d (gm v)]) rfl vL (aa9 (b:=b) (B:=B) sp hv n6 zv) (λid blk hk=>oz (l:=Yo b B rs) (.cons rfl (.cons rfl (.cons rfl (.cons rfl trivial)))) id blk hk) (ES rfl (ex rfl rfl (ex rfl rfl (aG rfl (aG rfl (OL.nil (AW.seq ?_)))))));refine AW.sg hE rfl (aj rfl (bP rfl vL (az9 (w:=bC rs v) (by omega) (λi=>Nat.le_succ_of_le (zl i))) (tH rfl rfl (c:=false) (decide_eq_false (by have:=Ip.2 hg;omega)) (OL.nil (pW rfl ?_)))))
 exact AW.skip (AW.sg hE rfl (aj rfl (aG rfl (aG rfl (OL.nil (AW.ret ⟨⟨_,.tmp rfl (.tmp rfl .nil),_,.cons (.le vR) (.cons (.le vR) .nil),rfl⟩,λid blk hk=>oz (l:=Yo b B rs) (.cons rfl (.cons rfl (.cons rfl (.cons rfl trivial)))) id blk hk⟩))))))
set_option maxRecDepth 8000 in
set_option maxHeartbeats 12800000 in
theorem PL {a:Au}{s:Nat}(t:Au.Take a s)(s1:1<=s)(s2:s<=2)(st4:a.st<=4)(rk3:VL a<=3):ai P F.jL [uY a] (.oM [uY (⟨a.sym,(bn (ah [a])).length,(EP (bn (ah [a])).length),((bn (ah [a])).map (kQ a)),dF (dF (qV (ah [a]) (bn (ah [a]))))⟩:Au),.d (dI 0)]):=by
 obtain⟨ok,fl,z6,hn⟩:=EK t (Nat.le_trans s2 (by decide))
 have hsz:aK [a]=a.st:=dN;have hk:(ah [a]).k=a.sym:=tY;have hs:a.sym=s:=t.fit.sym;have hL:al9 (ah [a]):=aV7 ok z6;obtain⟨zs,hz,hze⟩:=hL.inv;obtain⟨mv,v⟩:=JU ok hz;have hl6:=(hL.len (by omega)).1
 have hvn:mv.n=(bL (ah [a])).length:=v.n;have hl3:∀ l,l ∈ jw (aU (ah [a]))->l.length<=3:=λl hl=>by
   have h1:=hz.short l (by rw[hze];exact hl)
   have h2:=hz.b.few.2;have h3:(aU (ah [a])).n=(ah [a]).n:=rfl;omega
 refine ai.intro fn.jL (by rfl) (by rfl) (au (by rfl)) λE hE=>(AW.sg hE rfl (iG rfl rfl λb1=>(al z.Auto rfl λb2=>(aG rfl (OL.nil (AW.seq (AW.sg hE rfl ?_)))))))
 refine aQ ag.Auto rfl rfl (vs:=[_,_,_,_,_,_,_]) rfl (au rfl) (xG (y:=dAu a) sl.tV aZ3 rfl (by decide) (bP rfl vL (be5 (l:=[a]) (s:=s) (br9 t.fit) ⟨Nat.le_of_ble_eq_true rfl,Nat.le_of_ble_eq_true rfl⟩) (aG rfl (OL.nil (AW.sg hE rfl (aj rfl (fJ rfl rfl (c:=false) (by exact o6 (by omega)) ?_)))))))
 refine OL.nil (pW rfl ?_);refine AW.skip (AW.sg hE rfl (aQ ag.Auto rfl rfl (vs:=[_,_,_,_,_,_,_]) rfl (au rfl) (xG (y:=dAu a) sl.tV aZ3 rfl (by decide) (bP rfl vL (OfQ (l:=[a]) (by rw[show (([a]:List Au).getD 0 default).sym=s from t.fit.sym];exact br9 t.fit) ⟨Nat.le_of_ble_eq_true rfl,Nat.le_of_ble_eq_true rfl⟩ (by omega)) (al z.Machine rfl λb5=>(eG sz.Machine rfl rfl rfl rfl rfl (au rfl) (cells2:=[_,_,_]) rfl (OL.nil ?_)))))))
 refine AW.seq (AW.yP (by rw[hE];rfl) (SK.jK (aQ ag.Machine rfl rfl (vs:=[_,_,_]) rfl (au rfl) (OL.nil ?_))))
 refine SK.G6 (SO.JP (args':=[uD (ah [a])]) (show 32<E.n by rw[hE];exact Nat.le_of_ble_eq_true (by rfl)) rfl vL (am1 (m:=(ah [a])) (mv:=mv) ok fl z6 (by omega) hL v) ?_)
 rintro⟨y,B,b⟩ hI
 have hI:iw mv 16777215 [] y/\y.rs=lU (y.ks.map (bG (ah [a]) (bL (ah [a])))):=hI;have e1:y.ks=(bn (ah [a])):=(Nv (hz.first ok v hI.1)).symm
 have bt8:y.ks.length=VL a:=by rw[hz.rank ok v hI.1,hk];rfl
 have hfew:=hI.1.b.few;have hshort:=hI.1.short;have hrs:=hI.2;have hsp:=hI.1.sp;have hgf:∀ w,iy a.sym w->bW y.rs ((bG (ah [a]) (bL (ah [a]))) w)=false:=λw hw=>by
  have h9:=am3 hI.1 (w:=w) (by rw[v.k,hk];exact hw) v.ok
  rwa [v.vec w (by rw[hk];exact hw)] at h9
 have hkw:∀ u,u ∈ y.ks->iy a.sym u:=λu hu=>by have:=hI.1.uN u hu;rwa [v.k,hk] at this
 rw[e1] at hfew hshort hrs hkw bt8;have hk3:(bn (ah [a])).length<=3:=by omega
 have hk2:∀ u,u ∈ (bn (ah [a]))->u.length<=2:=λu hu=>by have:=hshort u hu;omega
 dsimp only
 rw[e1];refine SK.jK (ES rfl (OL.nil ?_));refine SK.jK (ex rfl rfl (OL.nil ?_));refine SK.jK (ex rfl rfl (OL.nil ?_));refine SK.jK (ex rfl rfl (OL.nil ?_));refine SK.jK (aG rfl (OL.nil ?_));refine SK.jK (asP rfl (OL.nil ?_));refine SK.jK (asF rfl (OL.nil ?_));refine SK.nil (AW.sg hE rfl (bP rfl .jm (Fj (n:=1) (d:=1) (by decide) (by decide) (by decide)) ?_))
 rw[q11];refine ES rfl (ex rfl rfl (ex rfl rfl (al z.Rat rfl λb9=>(eG sz.Rat rfl rfl rfl rfl rfl (au rfl) (cells2:=[_,_,_]) rfl (aG rfl (OL.nil (AW.sg hE rfl ?_)))))));refine bd z.Ring pl.Ring (cs:=[_,_]) rfl (aV fd.kZ rfl rfl (aA ce.int rfl rfl rfl (aj rfl (fO sl.yJ rfl rfl (Ko (cs:=[_,_,_,_,_,_,_]) z.Auto pl.Auto (jR (by exact U7 rfl) (jR (by exact rq rfl) (jR (by exact rq rfl) (J9)))) (by rfl) (al z.Auto rfl λb11=>(eG sz.Auto rfl rfl rfl rfl rfl (au rfl) (cells2:=[_,_,_,_,_,_,_]) rfl ?_)))))))
 refine OL.nil (AW.seq (AW.sg hE rfl (aj rfl (fO sl.yJ rfl rfl (aj rfl (OL.nil (AW.block ?_)))))));refine AW.vz 61 T.ay 8 rfl (AW.vz 73 T.ay 8 rfl (AW.vz 110 T.mQ 11 rfl ?_));refine AW.pV 11 [.d (dI 1),.d (.sl []),.d (dI a.sym),.d (dI (bn (ah [a])).length),.bK 61 0 0 0,.bK 73 0 0 0,.bK 110 0 0 0] rfl (.cons vR (.cons (bV.mt) (.cons vR (.cons vR (.cons lK (.cons lK (.cons lK .nil))))))) ?_;refine AW.aX (α:=Nat × Nat × Nat × Nat × Nat × Nat × Nat) [(1,_),(2,_),(3,_),(5,_),(7,_),(8,_),(9,_),(11,_),(46,_),(47,_)] [(1,_),(2,_),(5,_),(9,_)] (λ(i,bi,ci,bf,cf,ba,ca)=>[(48,.d (dI i))]) (λ(i,bi,ci,bf,cf,ba,ca)=>[(11,.box b11 T.Auto [.d (dI 1),.d (.sl []),.d (dI a.sym),.d (dI (bn (ah [a])).length),.bK 61 bi i ci,.bK 73 bf i cf,.bK 110 ba (Qo (ah [a]) (bn (ah [a])) i).length ca]),(61,.row bi ci T.ay 8 (((EP (bn (ah [a])).length).take i).map dW)),(73,.row bf cf T.ay 8 ((((bn (ah [a])).map (kQ a)).take i).map dW)),(110,.row ba ca T.mQ 11 ((Qo (ah [a]) (bn (ah [a])) i).map jv)),(1000,boxS b B y.rs),(1001,Yn B y.rs),(1002,BL B y.rs),(1003,rowP B y.rs)]) (λ(i,bi,ci,bf,cf,ba,ca)=>i<=(bn (ah [a])).length) (λ(i,bi,ci,bf,cf,ba,ca)=>(bn (ah [a])).length-i) (0,0,0,0,0,0,0) (.cons (iF rfl) (.cons (iF rfl) (.cons (dA rfl) (.cons (iF rfl) (.cons (iF rfl) (.cons (N7 rfl) (.cons (iF rfl) (.cons (iF rfl) (.cons (dA rfl) (.cons (dA rfl) .nil)))))))))) (.cons (jc rfl) (.cons (jc rfl) (.cons (jc rfl) (.cons (jc rfl) .nil)))) ⟨Nat.zero_le _,.dw,.cons rfl (.cons rfl (.cons rfl (.cons rfl (.cons rfl (.cons rfl (.cons rfl (.cons rfl .nil)))))))⟩ ?_
 rintro⟨i,bi,ci,bf,cf,ba,ca⟩ h1
 have h1:i<=(bn (ah [a])).length:=h1;refine AW.sg hE rfl (bD rfl rfl rfl (OL.nil (AW.seq (AW.cond rfl (λh49=>?_) (λh49=>?_)))))
 .try simp only[fG] at h49
  refine AW.skip (AW.seq (AW.block (AW.seq ?_)));have hi:i<(bn (ah [a])).length:=by omega
  have hki:=hk2 _ (getD_mem hi []);have bF8:=hkw _ (getD_mem hi []);refine AW.rg hE rfl (aj rfl (fD sl.yJ [] rfl rfl hi rfl rfl (iR ag.G7 rfl (vs:=[_,_,_]) rfl (au rfl) (al z.G7 rfl λb13=>(aG rfl (eG sz.G7 rfl rfl rfl rfl rfl (au rfl) (cells2:=[_,_,_]) rfl (OL.nil ?_)))))));refine AW.sg hE rfl (al z.ay rfl λb14=>(OL.nil ?_));refine AW.XR (α:=List V) [(1,_),(2,_),(3,_),(5,_),(7,_),(8,_),(9,_),(11,_),(12,_),(13,_),(14,_),(46,_),(47,_),(48,_)] [(1,_),(2,_),(5,_),(9,_),(11,_),(13,_),(61,_),(73,_),(110,_),(1000,_),(1001,_),(1002,_),(1003,_)] (λcs9=>[]) (λcs9=>[(14,.box b14 T.ay cs9)]) (λcs9=>fK cs9 (cW (if i=0 then 1 else 0))) (.cons (iF rfl) (.cons (iF rfl) (.cons (dA rfl) (.cons (iF rfl) (.cons (iF rfl) (.cons (N7 rfl) (.cons (iF rfl) (.cons (iF rfl) (.cons (dA rfl) (.cons (iF rfl) (.cons (iF rfl) (.cons (dA rfl) (.cons (dA rfl) (.cons (dA rfl) .nil)))))))))))))) (.cons (jc rfl) (.cons (jc rfl) (.cons (jc rfl) (.cons (jc rfl) (.cons (jc rfl) (.cons (jc rfl) (.cons (tJ rfl) (.cons (tJ rfl) (.cons (tJ rfl) (.cons (jc rfl) (.cons (tJ rfl) (.cons (tJ rfl) (.cons (tJ rfl) .nil))))))))))))) ?_ ?_
  .refine AW.sg hE rfl (aj rfl (fE rfl rfl rfl (OL.nil (AW.cond rfl (λh0=>?_) (λh0=>?_)))))
   .have h0:i=0:=by have:=mX h0;omega
    refine AW.rg hE rfl (aQ ag.Rat rfl rfl (vs:=[_,_,_]) rfl (au rfl) (aV fd.gG rfl rfl (eG sz.Rat rfl rfl rfl rfl rfl (au rfl) (cells2:=[_,_,_,_,_,_,_,_]) rfl (OL.nil ?_))));exact AW.reach _ ⟨(by rw[if_pos h0];exact aW0 (q:=1)),Knows.app .aL6 (.nil),dP.app (.cons rfl (.cons rfl (.cons rfl (.cons rfl (.cons rfl (.cons rfl (.cons rfl (.cons rfl (.cons rfl (.cons rfl (.cons rfl (.cons rfl (.cons rfl .nil))))))))))))) (.cons rfl .nil)⟩
   .have h0:¬ i=0:=by have:=oN h0;omega
    refine AW.skip ?_;exact AW.reach _ ⟨(by rw[if_neg h0];exact aV9),Knows.app .aL6 (.nil),dP.app (.cons rfl (.cons rfl (.cons rfl (.cons rfl (.cons rfl (.cons rfl (.cons rfl (.cons rfl (.cons rfl (.cons rfl (.cons rfl (.cons rfl (.cons rfl .nil))))))))))))) (.cons rfl .nil)⟩
  intro cs9 hcs;refine AW.pV 14 (cW (if i=0 then 1 else 0)) rfl hcs (AW.sg hE rfl (aV fd.mg rfl rfl (aA ce.aS rfl rfl rfl (aQ ag.ay rfl rfl (vs:=[_,_,_,_,_,_,_,_]) rfl (au rfl) (xG (y:=dW (if i=0 then 1 else 0)) sl.aS MK rfl (by decide) ?_)))))
  refine Am sl.aS rfl rfl rfl (by rw[dL,List.length_take,Ai];omega) (VC.d _) (λy hy=>by rw[lV hy];rfl) (by simp only[kC];omega) (by simp only[kC];omega) (.inr rfl) (ys:=((EP (bn (ah [a])).length).take (i+1)).map dW) (by rw[show (EP (bn (ah [a])).length).take (i+1)=(EP (bn (ah [a])).length).take i++[if i=0 then 1 else 0] from aG8 hi,List.map_append];rfl) (n2:=i+1) rfl λb61 c61=>?_
  refine aV fd.mg rfl rfl (eG sz.aS rfl rfl rfl rfl rfl (au rfl) (cells2:=[_,_,_,_,_,_,_]) rfl (OL.nil (AW.seq (AW.dg 2 [0,1,2,3,4,5,6,7,8,9,10,11,12] ak hE rfl (by kernel_rfl) (OI.aP (os:=[_,_,_,_,_,_,_,_,_,_,_,_,_]) rfl ?_)))))
  refine aV fd.o8 rfl rfl (aA ce.aS rfl rfl rfl (aV fd.av3 rfl rfl (aV fd.QJ rfl rfl (aA ce.bF rfl rfl rfl (aV fd.xg rfl rfl (aA ce.bF rfl rfl rfl ?_))))));refine bP rfl vL (bp4 (u:=aZ (ah [a]) ((bn (ah [a])).getD i [])) (v:=(ah [a]).fin) (n:=(ah [a]).n) (lu ok _) ok.fin z6.n6 (mV z6 (by omega)) (λj=>Nat.le_trans (z6.fin j) (by have:=z6.e24;omega))) ?_
  rw[show mZ (ah [a]).n (vf (aZ (ah [a]) ((bn (ah [a])).getD i []))) (vf (ah [a]).fin)=kQ a ((bn (ah [a])).getD i []) from rfl]
  refine bd z.ay pl.ay (cs:=[_,_,_,_,_,_,_,_]) rfl (xG (y:=dW (kQ a ((bn (ah [a])).getD i []))) sl.aS bt6 rfl (by decide) ?_)
  refine Am sl.aS rfl rfl rfl (by rw[dL,List.length_take,dL];omega) (VC.d _) (λy hy=>by rw[lV hy];rfl) (by simp only[kC];omega) (by simp only[kC];omega) (.inr rfl) (ys:=(((bn (ah [a])).map (kQ a)).take (i+1)).map dW) (by rw[iV 0 (by rw[dL];exact hi),List.map_append,Y4 hi];rfl) (n2:=i+1) rfl λb73 c73=>?_
  refine aV fd.o8 rfl rfl (eG sz.aS rfl rfl rfl rfl rfl (au rfl) (cells2:=[_,_,_,_,_,_,_]) rfl (OL.nil (AW.sg hE rfl (aG rfl (OL.nil (AW.block ?_))))));refine AW.aX (α:=Nat × Nat × Nat) [(1,_),(2,_),(3,_),(5,_),(7,_),(8,_),(9,_),(11,_),(12,_),(13,_),(46,_),(47,_),(48,_)] [(1,_),(2,_),(5,_),(9,_),(13,_),(14,_),(61,_),(73,_)] (λ(s9,ba2,ca2)=>[(15,.d (dI ((s9:Int)+1)))]) (λ(s9,ba2,ca2)=>[(11,.box b11 T.Auto [.d (dI 1),.d (.sl []),.d (dI a.sym),.d (dI (bn (ah [a])).length),.bK 61 b61 (i+1) c61,.bK 73 b73 (i+1) c73,.bK 110 ba2 (PI (ah [a]) (bn (ah [a])) i s9).length ca2]),(110,.row ba2 ca2 T.mQ 11 ((PI (ah [a]) (bn (ah [a])) i s9).map jv)),(1000,boxS b B y.rs),(1001,Yn B y.rs),(1002,BL B y.rs),(1003,rowP B y.rs)]) (λ(s9,ba2,ca2)=>s9<=a.sym) (λ(s9,ba2,ca2)=>a.sym-s9) (0,ba,ca) (.cons (iF rfl) (.cons (iF rfl) (.cons (dA rfl) (.cons (iF rfl) (.cons (iF rfl) (.cons (N7 rfl) (.cons (iF rfl) (.cons (iF rfl) (.cons (dA rfl) (.cons (iF rfl) (.cons (dA rfl) (.cons (dA rfl) (.cons (dA rfl) .nil))))))))))))) (.cons (jc rfl) (.cons (jc rfl) (.cons (jc rfl) (.cons (jc rfl) (.cons (jc rfl) (.cons (jc rfl) (.cons (tJ rfl) (.cons (tJ rfl) .nil)))))))) ⟨Nat.zero_le _,.cons (bV.int (by omega)) .nil,.cons (by rw[SC];rfl) (.cons (by rw[SC];rfl) (.cons rfl (.cons rfl (.cons rfl (.cons rfl .nil)))))⟩ ?_
  rintro⟨s9,ba2,ca2⟩ h2
  have h2:s9<=a.sym:=h2;refine AW.seq (AW.sg hE rfl (aj rfl (aV fd.kZ rfl rfl (aA ce.int rfl rfl rfl (Aw rfl rfl rfl (OL.nil (AW.cond rfl (λh78=>?_) (λh78=>?_))))))))
  .try simp only[fG] at h78
   refine AW.skip (AW.seq (AW.block (AW.seq ?_)));have hs9:s9<a.sym:=by omega
   have hnw:iy a.sym (((bn (ah [a])).getD i [])++[((s9+1:Nat):Int)]):=λx hx=>by
    rcases ru hx with hx|hx
    .exact bF8 x hx
    .rw[lV hx];omega
   have hcl:(lD (ah [a]) (bn (ah [a])) i s9).length=(bn (ah [a])).length:=by rw[am2,<- hrs];exact hfew.1.symm
   refine AW.rg hE rfl (Zl rfl (Qv rfl (aQ ag.Machine rfl rfl (vs:=[_,_,_]) rfl (au rfl) (aV fd.av3 rfl rfl (aV fd.QJ rfl rfl (aA ce.bF rfl rfl rfl (aj rfl ?_)))))));refine bP rfl vL (aZ4 (m:=(ah [a])) (s:=s9) (v:=aZ (ah [a]) ((bn (ah [a])).getD i [])) ok fl z6 (lu ok _) (by omega) (mV z6 (by omega))) ?_
   rw[<- Wj];refine bP rfl .jm (aa7 (m:=(ah [a])) (L:=bL (ah [a])) (u:=((bn (ah [a])).getD i [])++[((s9+1:Nat):Int)]) ok z6 (by omega) (by rw[jd,kC];omega) (λl hl=>Nat.le_trans (hl3 l hl) (by decide))) ?_
   refine X3 (oJ:=[.ptr 1000 b 0,.d (gm ((bG (ah [a]) (bL (ah [a]))) (((bn (ah [a])).getD i [])++[((s9+1:Nat):Int)])))]) rfl vL (bt7 (n:=mv.n) (b:=b) (B:=B) (rs:=y.rs) hsp (by rw[hvn];exact jQ) (by omega) (λj=>Nat.le_trans (JX z6 (by rw[jd,kC];omega) hl3 j) (by decide)) (hgf _ hnw)) (λid blk hk=>oz (l:=Yo b B y.rs) (.cons rfl (.cons rfl (.cons rfl (.cons rfl trivial)))) id blk hk) ?_
   rw[show jU y.rs ((bG (ah [a]) (bL (ah [a]))) (((bn (ah [a])).getD i [])++[((s9+1:Nat):Int)]))=(lD (ah [a]) (bn (ah [a])) i s9) by unfold lD;rw[hrs]]
   refine ES rfl (ex rfl rfl (ex rfl rfl (aG rfl (aG rfl (OL.nil (AW.sg hE rfl (aj rfl ?_)))))));refine fO sl.bF rfl rfl ?_;rw[hcl];refine aj rfl (OL.nil (AW.block ?_));refine AW.aX (α:=Nat × Nat × Nat) [(1,_),(2,_),(3,_),(5,_),(7,_),(8,_),(9,_),(11,_),(12,_),(13,_),(15,_),(46,_),(47,_),(48,_),(94,_),(95,_)] [(1,_),(2,_),(5,_),(9,_),(13,_),(14,_),(61,_),(73,_),(1000,_),(1001,_),(1002,_),(1003,_)] (λ(j,ba3,ca3)=>[(96,.d (dI j))]) (λ(j,ba3,ca3)=>[(11,.box b11 T.Auto [.d (dI 1),.d (.sl []),.d (dI a.sym),.d (dI (bn (ah [a])).length),.bK 61 b61 (i+1) c61,.bK 73 b73 (i+1) c73,.bK 110 ba3 (MN (ah [a]) (bn (ah [a])) i s9 j).length ca3]),(110,.row ba3 ca3 T.mQ 11 ((MN (ah [a]) (bn (ah [a])) i s9 j).map jv))]) (λ(j,ba3,ca3)=>j<=(bn (ah [a])).length) (λ(j,ba3,ca3)=>(bn (ah [a])).length-j) (0,ba2,ca2) (.cons (iF rfl) (.cons (iF rfl) (.cons (dA rfl) (.cons (iF rfl) (.cons (iF rfl) (.cons (N7 rfl) (.cons (iF rfl) (.cons (iF rfl) (.cons (dA rfl) (.cons (iF rfl) (.cons (dA rfl) (.cons (dA rfl) (.cons (dA rfl) (.cons (dA rfl) (.cons (dA rfl) (.cons (dA rfl) .nil)))))))))))))))) (.cons (jc rfl) (.cons (jc rfl) (.cons (jc rfl) (.cons (jc rfl) (.cons (jc rfl) (.cons (jc rfl) (.cons (tJ rfl) (.cons (tJ rfl) (.cons (jc rfl) (.cons (tJ rfl) (.cons (tJ rfl) (.cons (tJ rfl) .nil)))))))))))) ⟨Nat.zero_le _,.dw,.cons (by rw[SB];rfl) (.cons (by rw[SB];rfl) .nil)⟩ ?_
   rintro⟨j,ba3,ca3⟩ h3
   have h3:j<=(bn (ah [a])).length:=h3;have hzl:=aG6 (m:=(ah [a])) (K:=(bn (ah [a]))) (i:=i) (s:=s9) (j:=j);have hm1:=Nat.mul_le_mul (show (ah [a]).k<=2 by omega) hk3
   have hm2:=Nat.mul_le_mul (show i<=3 by omega) hm1
   have hm3:=Nat.mul_le_mul (show s9<=2 by omega) hk3
   refine AW.sg hE rfl (bD rfl rfl rfl (OL.nil (AW.seq (AW.cond rfl (λh97=>?_) (λh97=>?_)))))
   .try simp only[fG] at h97
    refine AW.skip (AW.seq (AW.block (AW.seq ?_)));have hj:j<(bn (ah [a])).length:=by omega
    refine AW.rg hE rfl (aj rfl (fD sl.bF 0 rfl rfl (by omega) rfl rfl (iR ag.Rat rfl (vs:=[_,_,_]) rfl (au rfl) (al z.Rat rfl λb19=>(aG rfl (eG sz.Rat rfl rfl rfl rfl rfl (au rfl) (cells2:=[_,_,_]) rfl (OL.nil ?_)))))))
    refine AW.rg hE rfl (aV fd.fM rfl rfl (aA ce.bZ rfl rfl rfl (aj rfl (aj rfl (aj rfl (aQ ag.Rat rfl rfl (vs:=[_,_,_]) rfl (au rfl) (bd z.ay pl.ay (cs:=[_,_,_,_,_,_,_,_]) rfl ?_)))))));refine Ko (cs:=[_,_,_,_,_,_,_,_,_,_,_]) z.mQ pl.mQ (jR (by exact rq rfl) (jR (by exact rq rfl) (jR (by exact rq rfl) (jR (by exact U7 rfl) (J9))))) (by rfl) (xG (y:=jv (Qn (ah [a]) (bn (ah [a])) i s9 j)) sl.bZ (aW1 (x:=(Qn (ah [a]) (bn (ah [a])) i s9 j))) rfl (by decide) ?_)
    refine Am sl.bZ rfl rfl rfl (dL ..).symm (VC.d _) (λy hy=>by rw[lV hy];rfl) (by simp only[kC];omega) (by simp only[kC];omega) (.inr rfl) (ys:=(MN (ah [a]) (bn (ah [a])) i s9 (j+1)).map jv) (by rw[SA,List.map_append];rfl) (n2:=(MN (ah [a]) (bn (ah [a])) i s9 (j+1)).length) (by rw[SA,jd];rfl) λbG2 bG3=>?_
    refine aV fd.fM rfl rfl (eG sz.bZ rfl rfl rfl rfl rfl (au rfl) (cells2:=[_,_,_,_,_,_,_]) rfl (OL.nil (AW.rg hE rfl (aJ rfl rfl (by omega) (aj rfl (OL.nil ?_))))))
    exact AW.again (x:=(j,ba3,ca3)) (j+1,bG2,bG3) (by (simp only[];omega)) ⟨by omega,Knows.app .bl2 .dw,dP.app (.cons rfl (.cons rfl (.cons rfl (.cons rfl (.cons rfl (.cons rfl (.cons rfl (.cons rfl (.cons rfl (.cons rfl (.cons rfl (.cons rfl .nil)))))))))))) (.cons rfl (.cons rfl .nil))⟩
   .try simp only[fG] at h97
    refine AW.exit ?_;obtain rfl:j=(bn (ah [a])).length:=by omega
    refine AW.rg hE rfl (aj rfl (aJ rfl rfl (by omega) (aG rfl (OL.nil ?_))))
    exact AW.again (x:=(s9,ba2,ca2)) (s9+1,ba3,ca3) (by (simp only[];omega)) ⟨by omega,Knows.app .a98 (.cons (bV.int (by omega)) .nil),dP.app (.cons rfl (.cons rfl (.cons rfl (.cons rfl (.cons rfl (.cons rfl (.cons rfl (.cons rfl .nil)))))))) (.cons (by rw[<- Xa];rfl) (.cons (by rw[<- Xa];rfl) (.cons rfl (.cons rfl (.cons rfl (.cons rfl .nil))))))⟩
  .try simp only[fG] at h78
   refine AW.exit ?_;obtain rfl:s9=a.sym:=by omega
   refine AW.rg hE rfl (aJ rfl rfl (by omega) (aj rfl (OL.nil ?_)))
   exact AW.again (x:=(i,bi,ci,bf,cf,ba,ca)) (i+1,b61,c61,b73,c73,ba2,ca2) (by (simp only[];omega)) ⟨by omega,Knows.app .ae6 .dw,dP.app (.cons rfl (.cons rfl (.cons rfl (.cons rfl .nil)))) (.cons (by rw[<- Xb,hk];rfl) (.cons rfl (.cons rfl (.cons (by rw[<- Xb,hk];rfl) (.cons rfl (.cons rfl (.cons rfl (.cons rfl .nil))))))))⟩
 .try simp only[fG] at h49
  refine AW.exit (AW.seq ?_);obtain rfl:i=(bn (ah [a])).length:=by omega
  have hnl:(qV (ah [a]) (bn (ah [a]))).length<=20:=by
   rw[<- Xc,JW];have hm1:=Nat.mul_le_mul (show (ah [a]).k<=2 by omega) hk3
   have hm2:=Nat.mul_le_mul hk3 hm1;omega
  have hnc:∀ i s9 j,sz ((lD (ah [a]) (bn (ah [a])) i s9).getD j 0)<=134217728:=λi s9 j=>Xe z6 hl3 hk2 hk3 (by rw[<- hrs];omega) i s9 j
  have hnz:∀ x,x ∈ qV (ah [a]) (bn (ah [a]))->sz x.q<=134217728:=λx hx=>by
   obtain⟨i,hi,s9,hs9,j,hj,rfl⟩:=PK.1 hx;exact hnc i s9 j
  refine AW.freeze 61 rfl (AW.pV 11 [.d (dI 1),.d (.sl []),.d (dI a.sym),.d (dI (bn (ah [a])).length),.d (lC (EP (bn (ah [a])).length)),.bK 73 bf (bn (ah [a])).length cf,.bK 110 ba (Qo (ah [a]) (bn (ah [a])) (bn (ah [a])).length).length ca] rfl (.cons vR (.cons vR (.cons vR (.cons vR (.cons (dM (by rw[dL,List.length_take,Ai];omega) (by rw[List.take_of_length_le (by rw[Ai];exact Nat.le_refl _)])) .jm))))) ?_)
  refine AW.freeze 73 rfl (AW.pV 11 [.d (dI 1),.d (.sl []),.d (dI a.sym),.d (dI (bn (ah [a])).length),.d (lC (EP (bn (ah [a])).length)),.d (lC ((bn (ah [a])).map (kQ a))),.bK 110 ba (Qo (ah [a]) (bn (ah [a])) (bn (ah [a])).length).length ca] rfl (.cons vR (.cons vR (.cons vR (.cons vR (.cons vR (.cons (dM (by rw[dL,List.length_take,dL];omega) (by rw[List.take_of_length_le (by rw[dL];exact Nat.le_refl _)])) .dw)))))) ?_)
  refine AW.freeze 110 rfl (AW.pV 11 [.d (dI 1),.d (.sl []),.d (dI a.sym),.d (dI (bn (ah [a])).length),.d (lC (EP (bn (ah [a])).length)),.d (lC ((bn (ah [a])).map (kQ a))),.d (iL (qV (ah [a]) (bn (ah [a]))))] rfl (.cons vR (.cons vR (.cons vR (.cons vR (.cons vR (.cons vR (.cons (dM (dL ..).symm rfl) .nil))))))) ?_);refine AW.rg hE rfl (aV fd.gu rfl rfl (aQ ag.Ring rfl rfl (vs:=[_,_]) rfl (au rfl) (aV fd.fM rfl rfl (aA ce.bZ rfl rfl rfl (bP rfl vL (aa1 (l:=qV (ah [a]) (bn (ah [a]))) hnl hnz) (aV fd.fM rfl rfl (eG sz.bZ rfl rfl rfl rfl rfl (au rfl) (cells2:=[_,_,_,_,_,_,_]) rfl ?_)))))));refine OL.nil (AW.seq (AW.seq ?_));have htl:=zn (qV (ah [a]) (bn (ah [a])));refine AW.rg hE rfl (aV fd.fM rfl rfl (aA ce.bZ rfl rfl rfl (fO sl.bZ rfl rfl (kS rfl rfl (c:=false) (decide_eq_false (by show ¬ (2048:Int)<((dF (qV (ah [a]) (bn (ah [a])))).length:Int);omega)) (OL.nil (pW rfl ?_))))))
  refine AW.skip (AW.seq ?_);have hmo:=aW2 (a:=a) (by omega)
  refine AW.rg hE rfl (aQ ag.Auto rfl rfl (vs:=[_,_,_,_,_,_,_]) rfl (au rfl) ?_);refine bP rfl vL (aa5 (a:=(⟨a.sym,(bn (ah [a])).length,(EP (bn (ah [a])).length),((bn (ah [a])).map (kQ a)),dF (qV (ah [a]) (bn (ah [a])))⟩:Au)) hmo (aW3 (by omega) z6 hk2 hnl hnc) (by show a.sym<=32;omega) (by show (bn (ah [a])).length<=64;omega)) ?_
  refine ex rfl rfl (ex rfl rfl (eG sz.Auto rfl rfl rfl rfl rfl (au rfl) (cells2:=[_,_,_,_,_,_,_]) rfl (aG rfl (OL.nil ?_))));exact AW.ret (aT.r ⟨_,.dK rfl rfl ag.Auto (au rfl) (.tmp rfl .nil),_,.cons (.ag (.cons (.le vR) (.cons (.le vR) (.cons (.le vR) (.cons (.le vR) (.cons (.le vR) (.cons (.le vR) (.cons (.le vR) .nil)))))))) (.cons (.le vR) .nil),rfl⟩)
end Go.Proofs.YtanlenlmihoiiaaGreatDoor
namespace Go.AL
open Go Go.BigFrame
section
variable {P:Program}{E:Env}
theorem SG.jK {ops:Array Oper}{o:Oper}{K:S->Prop}{s:S}(h:OL P 0 ops K [o] s):SG P E ops o K s:=.inl h
theorem SG.G6 {ops:Array Oper}{dst:Option Nat}{op:Op}{ty:TypeId}{pos:String}{after:Array Edge}{K:S->Prop}{s:S}(h:SO P E ⟨dst,op,ty,pos,after,none⟩ K s):SG P E ops ⟨dst,op,ty,pos,after,none⟩ K s:=.inr ⟨rfl,h⟩
def Le (P:Program)(E:Env)(ops:Array Oper)(K:S->Prop):Nat->Array Bool->S->Prop
 | 0,listed,s=>Region.ready .any ops listed=[]/\K s
 | n+1,listed,s=>Region.ready .any ops listed≠[]/\∀ i,i ∈ Region.ready .any ops listed->∃ o,ops[i]? = some o/\SG P E ops o (Le P E ops K n (listed.setIfInBounds i true)) s
theorem Xf {Q:Exit->S->Prop}{ops:Array Oper}(hd:∀ o,o ∈ ops.toList->ou E.n o.dst) :
  ∀ (fuel:Nat) (listed:Array Bool) (s:S) (F:Hp) (a:Act) (w:World),Run E F s a w->Le P E ops (Q .normal) fuel listed s->wpAny P .any ops (Ll E Q) fuel listed a w:=by
 intro fuel
 induction fuel with
 | zero=>exact λlisted s F a w hr h=>⟨h.1,⟨F,s,hr,h.2⟩⟩
 | succ fuel ih =>
  intro listed s F a w hr h;refine⟨λe=>absurd e h.1,λi hi=>?_⟩;obtain⟨o,ho,hog⟩:=h.2 i hi;exact SG.sound ho hog hr (hd o (by
   obtain⟨h1,h2⟩:=Array.getElem?_eq_some_iff.1 ho;rw[<- h2];exact Array.getElem_mem_toList h1)) λF' s' a' w' hr' hk=>ih _ s' F' a' w' hr' hk
theorem AW.Ux {id:Nat}{ops:Array Oper}{Q:Exit->S->Prop}{s:S}(hf:P.follows .mixedOrders=true)(hd:x9 E.n ops=true)
  (h:Le P E ops (Q .normal) ops.size (Array.replicate ops.size false) s):AW P E (.region id ops true) Q s:=λF a w hr=>by
 have hrun:Run E F s a { w with drawn:=w.drawn+1 }:=⟨⟨hr.gU.rC,λid blk hm=>(hr.gU.own id blk hm).keep (Hp.le.refl F) λ_ _=>rfl,hr.gU.apart,hr.gU.inj⟩,⟨hr.grow.os,hr.grow.tape,hr.grow.output,hr.grow.size,hr.grow.block⟩,hr.f0,hr.wU,hr.kM,hr.size,hr.defers,hr.slots⟩
 exact wp_region_any hf (Xf (x9.spec hd) ops.size _ s F a _ hrun h)
def am5 (P:Program)(E:Env)(ops:Array Oper)(K:S->Prop)(n:Nat)(listed:Array Bool)(s:S):List Nat->List Oper->Prop
 | [],[]=>True
 | i::l,o::os=>SG P E ops o (Le P E ops K n (listed.setIfInBounds i true)) s/\am5 P E ops K n listed s l os
 | _,_=>False
theorem am5.get {ops:Array Oper}{K:S->Prop}{n:Nat}{listed:Array Bool}{s:S}:∀ (l:List Nat) (os:List Oper),l.map (λi=>ops[i]?)=os.map some->am5 P E ops K n listed s l os->∀ i,i ∈ l->∃ o,ops[i]? = some o/\SG P E ops o (Le P E ops K n (listed.setIfInBounds i true)) s
 | [],_,_,_,i,hi=>by simp at hi
 | j::l,[],h,_,_,_=>by simp at h
 | j::l,o::os,h,ht,i,hi=>by
  simp only[List.map_cons,List.cons.injEq] at h;rcases List.mem_cons.1 hi with rfl|hi
  .exact⟨o,h.1,ht.1⟩
  .exact am5.get l os h.2 ht.2 i hi
theorem Le.node {ops:Array Oper}{K:S->Prop}{n:Nat}{listed:Array Bool}{s:S}(l:List Nat){os:List Oper}(h:Region.ready .any ops listed=l)(hne:l≠[])(ho:l.map (λi=>ops[i]?)=os.map some)(ht:am5 P E ops K n listed s l os):Le P E ops K (n+1) listed s :=
 ⟨by rw[h];exact hne,λi hi=>am5.get l os ho ht i (by rw[<- h];exact hi)⟩
theorem Le.leaf {ops:Array Oper}{K:S->Prop}{listed:Array Bool}{s:S}(h:Region.ready .any ops listed=[])(hk:K s):Le P E ops K 0 listed s:=⟨h,hk⟩

/-
  M, chapter 24: first bases of the rows of a table, by the table alone.
-/
import Derived.Test.YtanlenlmihoiiaaGreatDoorKWkAB
set_option maxHeartbeats 6400000
set_option linter.unusedVariables false
set_option linter.unusedSimpArgs false
namespace Go.Proofs.YtanlenlmihoiiaaGreatDoor
open Go Go.AL
theorem TK {α:Type}{P:Program}{f:Nat}{args:List V}{res:α->V}{r:V}{φ:α->Prop}(h:jA P f args jH res (λ_=>jH) φ)(hr:∀ x,φ x->res x=r):ai P f args r :=
 ai.aq8 ⟨h.1,λF w vals hS hv=>(h.2 F w vals hS hv).mono λe w' ⟨x,hx,v,F',k1,k2,k3⟩=>⟨v,F',k1,k2,hr x hx ▸ k3⟩⟩
theorem G6 {U:List D}{d:D}{R:List D}{b e c:Nat}:some (iF.row b (U.length+(c+1)) e 1 (U++d::R))=some (iF.row b ((U++[d]).length+c) e 1 ((U++[d])++R)):=by
 rw[List.append_assoc,jd,show U.length + [d].length+c=U.length+(c+1) by rw[iY];omega];rfl
theorem bg4 {a:Au}(f:a.Fw){w:List Int}(hw:iV a.sym w)(hl:w.length<=6)(j:Nat):sz ((vY a w).getD j 0)<=16777215:=by
 have h:=U0 f hw hl w.length j
 rwa [List.take_length] at h
theorem aG7 {n:Nat}{rs:List bZ}{v:List Rat}(sp:uO n 16777215 rs)(n6:n<=6)(zv:∀ i,sz (v.getD i 0)<=16777215)(j:Nat):sz ((Fq rs v).getD j 0)<=274877906944:=by
 have h:=(sp.sz.last (Nat.le_trans sp.le n6) zv).1;unfold Fq
 split
 .exact Nat.le_trans (Xo h j) (by decide)
 .exact Nat.le_trans (h j) (by decide)
theorem XA {m:bV}{L:List (List Int)}{i:Nat}(hi:i<L.length):(tV m L).getD i []=bF m (L.getD i []):=by
 unfold tV;rw[jh,List.getElem?_map,lQ hi,jh,lQ hi];rfl
theorem J4 {m:bV}{L:List (List Int)}:(tV m L).length=L.length:=dA ..
theorem Vb {w u:List Int}(nw:w.length<=1000)(nu:u.length<=1000):ai P F.Et [.d (ints w),.d (ints u)] (.d (ints (w++u))):=by
 refine ai.intro fn.Et (by rfl) (by rfl) (ay (by rfl)) λE hE=>?_
 refine AW.sg hE rfl ?_;refine jK rfl ?_;refine OL.nil ?_;refine AW.sg hE rfl ?_;refine aj rfl ?_;refine apM sl.ints rfl rfl (VC.d _) Qo (by simp;omega) (by simp;omega) rfl λb6 c6=>?_
 refine aj rfl (Yn sl.ints rfl rfl rfl rfl (VC.d _) Qo (by simp;omega) (by simp;omega) (.inl rfl) (ys:=(w++u).map dI) (by rw[List.map_append]) ?_)
 refine aF rfl ?_;refine OL.nil ?_;exact AW.ret (aP.r ⟨_,.tmp rfl .nil,.le vR⟩)
theorem Qq {a:Au}{s:Nat}(f:Au.Fit a s)(w:Au.Wt a):ai P F.BM [yV a] (.d (dI 0)):=by
 refine ai.intro fn.BM (by rfl) (by rfl) (ay (by rfl)) λE hE=>(AW.sg hE rfl (iO rfl rfl λb1=>(aF rfl (OL.nil (AW.seq (AW.block (AW.sg hE rfl ?_)))))))
 refine aQ ag.Auto rfl rfl (vs:=[_,_,_,_,_,_,_]) rfl (ay rfl) (bH rfl vL (U8 (a:=a) f.ok f.sz f.s1 f.st) (nt rfl (aF rfl (OL.nil (oH rfl ?_)))));refine AW.sg hE rfl (bC fd.jE rfl rfl (bC fd.lD rfl rfl (aG ce.int rfl rfl rfl (eX rfl rfl (c:=false) (kY rfl) (aF rfl (OL.nil (oH rfl ?_)))))));refine AW.sg hE rfl (aQ ag.Auto rfl rfl (vs:=[_,_,_,_,_,_,_]) rfl (ay rfl) (bH rfl vL (af2 w) (nt rfl (aF rfl (OL.nil (oH rfl ?_))))));exact AW.skip (AW.sg hE rfl (aF rfl (OL.nil (AW.ret (aP.r ⟨_,.tmp rfl .nil,.le vR⟩)))))
set_option maxRecDepth 8000 in
theorem an7 {a:Au}(f:Au.Fw a):jA P F.yO [yV a] jH (λy:y7=>.mM [.d (.sl (y.ks.map ints)),.d (.sl ((y.ks.map (vY a)).map dJ))]) (λ_=>jH) (λy=>gu (ah [a]) 16777215 [] y):=by
 obtain⟨ok,fl,z6,hn⟩:=f.Qe;have n6:=z6.n6;have hst:=f.few.st;have hst1:=f.st1;have s4:=f.s4;have hk:(ah [a]).k=a.sym:=xE;have bg5:iP (ah [a]) [[]] ([]:List bZ)<=1000:=by
   unfold iP;have:=Nat.mul_le_mul (show (ah [a]).k+1<=5 by omega) (show (ah [a]).n-([]:List bZ).length<=6 by omega)
   simp only[iY];omega
 refine jA.intro fn.yO (by rfl) (by rfl) (ay (by rfl)) λE hE=>(AW.sg hE rfl (iO rfl rfl λb1=>(jK rfl (jK rfl (OL.nil (AW.sg hE rfl (jK rfl ?_)))))))
 refine OL.nil (AW.seq (AW.own 4 36 T.ints 1 rfl rfl (AW.rg hE rfl (jK rfl (jK rfl (OL.nil (AW.seq ?_)))))));refine AW.seq (AW.own 5 40 T.bg 1 rfl rfl (AW.own 6 44 T.bg 1 rfl rfl (AW.rg hE rfl (bC fd.oz rfl rfl (aG ce.int rfl rfl rfl (fG rfl rfl (c:=false) (by exact decide_eq_false (by omega)) (OL.nil ?_)))))))
 refine oH rfl ?_;refine AW.skip (AW.sg hE rfl (aN3 (y:=ints []) sl.gB VC.mt.vd rfl (by decide) rfl λb15=>(pV rfl (OL.nil (AW.seq (AW.block (AW.rename 15 57 rfl ?_)))))))
 refine AW.aY (α:=y7 × List (List Int) × List D × Nat × Nat × Nat × Nat × Nat × Nat × Nat × Nat) [(1,_),(2,_),(3,_)] [(1,_)] (λ(y,Q,P0,d0,c0,bw,cw,bb,cb,br,cr)=>[(4,.bI 36 bw y.ks.length cw),(5,.bI 40 bb (y.ks.map (vY a)).length cb),(6,.bI 44 br (y.rs.map iM).length cr),(7,.xu 57 d0 1 P0.length Q.length c0)]) (λ(y,Q,P0,d0,c0,bw,cw,bb,cb,br,cr)=>[(36,.row bw cw T.ints 1 (y.ks.map ints)),(40,.row bb cb T.bg 1 ((y.ks.map (vY a)).map dJ)),(44,.row br cr T.bg 1 ((y.rs.map iM).map dJ)),(57,.row d0 (P0.length+c0) T.ints 1 (P0++Q.map ints))]) (λ(y,Q,P0,d0,c0,bw,cw,bb,cb,br,cr)=>gu (ah [a]) 16777215 Q y/\iP (ah [a]) Q y.rs<=1000) (λ(y,Q,P0,d0,c0,bw,cw,bb,cb,br,cr)=>iP (ah [a]) Q y.rs) (⟨[],[]⟩,[[]],[],b15,1,0,0,0,0,0,0) (.cons (iw rfl) (.cons (xK rfl) (.cons (xK rfl) .nil))) (.cons (je rfl) .nil) ⟨⟨gu.start _ _,bg5⟩,.cons vR (.cons vR (.cons vR (.cons OQ .nil))),.cons rfl (.cons rfl (.cons rfl (.cons rfl .nil)))⟩ ?_
 rintro⟨y,Q,P0,d0,c0,bw,cw,bb,cb,br,cr⟩ ⟨hI,hm1⟩
 have hI:gu (ah [a]) 16777215 Q y:=hI;have hm1:iP (ah [a]) Q y.rs<=1000:=hm1;have hQl:Q.length<=iP (ah [a]) Q y.rs:=Nat.le_add_right _ _;obtain⟨hf1,hf2⟩:=hI.b.few;have hkl:(y.ks.map (vY a)).length=y.ks.length:=dA ..;have hrl:(y.rs.map iM).length=y.rs.length:=dA ..;refine AW.seq (AW.sg hE rfl (mvB rfl (lnB sl.gB rfl rfl (jI rfl rfl rfl (OL.nil (AW.cond rfl (λhQ=>?_) (λhQ=>?_)))))))
 .have hQ:0<Q.length:=by have:=lK hQ;omega
  refine AW.skip (AW.block (AW.seq (AW.rowLen 57 rfl λhcl=>?_)));rw[jd,dA] at hcl;obtain⟨c0,rfl⟩:∃ c9,c0=c9+1:=⟨c0-1,by omega⟩
  obtain⟨w,Q,rfl⟩:∃ w Q9,Q=w::Q9:=(match Q,hQ with|w::Q9,_=>⟨w,Q9,rfl⟩)
  have hw6:=hI.b.six n6 w pU;have hwi:iV a.sym w:=by
   obtain⟨V,j,_⟩:=hI.join;have:=j.Kz.vF w (.inr pU)
   rwa [hk] at this
  have hfv:(vY a w)=bF (ah [a]) w:=CS f.ok hwi;have hfl:(vY a w).length=a.st:=NQ f.ok w;have hzv:=bg4 f hwi hw6;rw[List.length_cons] at hQl;refine AW.rg hE rfl (mvB rfl (bb7 (n:=0) sl.gB rfl rfl (by rw[List.length_cons];omega) (i:=P0.length) rfl (Uj ce.ints (by decide) rfl rfl be7 (d:=ints w) rfl (aF rfl (OL.nil (AW.sg hE rfl (mvB rfl ?_)))))))
  refine bb6 (l:=1) sl.gB rfl rfl (by rw[List.length_cons];omega) (o2:=P0.length+1) rfl (n2:=Q.length) rfl (asB rfl (OL.nil (AW.sg hE rfl (aQ ag.Auto rfl rfl (vs:=[_,_,_,_,_,_,_]) rfl (ay rfl) (aj rfl (bH rfl vL (IJ f hwi hw6) (aF rfl ?_)))))))
  refine OL.nil (AW.sg hE rfl (iU rfl (aj rfl ?_)));refine aj1 (qY:=[.bI 44 br (y.rs.map iM).length cr,.d (dJ (vY a w))]) rfl vL (gq.Ir (Zm (v:=(vY a w)) (b:=br) (c:=cr) hI.sp hI.lead (by rw[hfl,hn]) n6 hzv) (.cons bW.bI .dD)) (fP (id:=44) (blk:=.row br cr T.bg 1 ((y.rs.map iM).map dJ)) rfl) ?_
  refine aF rfl (OL.nil (AW.seq (AW.sg hE rfl (aj rfl (bH rfl vL (U9 (v:=Fq y.rs (vY a w)) (by rw[am8];omega) (λj=>aG7 hI.sp n6 hzv j)) (bG rfl rfl rfl (OL.nil ?_)))))))
  refine AW.cond rfl (λhg=>?_) (λhg=>?_)
  .have hg:bM y.rs (vY a w)=false:=Qj.1 (lK hg);have hnf:=(hI.next ok (by decide) (by rw[<- hfv];exact hzv)).2 (by rw[CV (by rw[<- hfv];exact hg)])
   rw[CV (by rw[<- hfv];exact hg)] at hnf
   refine AW.exit ?_;exact AW.again (x:=(y,w::Q,P0,d0,c0+1,bw,cw,bb,cb,br,cr)) (y,Q,P0++[ints w],d0,c0,bw,cw,bb,cb,br,cr) (by exact hnf.2) ⟨⟨hnf.1,by have h9:iP (ah [a]) Q y.rs<iP (ah [a]) (w::Q) y.rs:=hnf.2;omega⟩,Knows.app .yU (.cons vR (.cons vR (.cons vR (.cons (by rw[jd];exact bW.refl _) .nil)))),dL.app (.cons rfl .nil) (.cons rfl (.cons rfl (.cons rfl (.cons G6 .nil))))⟩
  .have hg:bM y.rs (vY a w)=true:=Decidable.byContradiction λh9=>by have:=Qj.2 (Bool.eq_false_iff.2 h9);have:=nZ hg;omega
   have hnt:=(hI.next ok (by decide) (by rw[<- hfv];exact hzv)).1 (by rw[GZ (by rw[<- hfv];exact hg)])
   rw[GZ (by rw[<- hfv];exact hg),<- hfv,hk] at hnt
   have hun:(y.rs++[newR y.rs (vY a w)]).map iM=y.rs.map iM++[Fq y.rs (vY a w)]:=by rw[Zc,Tt hg]
   refine AW.skip (AW.sg hE rfl (iU rfl (aj rfl (rF (y:=ints w) sl.gB (VC.d _).vd rfl (by decide) ?_))))
   refine xZ sl.gB rfl rfl rfl (by rw[dA]) (VC.d _) (λy hy=>by rw[jJ hy];rfl) (by simp only[iY];omega) (by simp only[iY];omega) (.inr rfl) (ys:=(y.ks++[w]).map ints) (by rw[List.map_append];rfl) (n2:=(y.ks++[w]).length) (by rw[jd];rfl) λb36 c36=>?_
   refine iU rfl (aj rfl (rF (y:=dJ (vY a w)) sl.dw (VC.d _).vd rfl (by decide) ?_))
   refine xZ sl.dw rfl rfl rfl (dA ..).symm (VC.d _) (λy hy=>by rw[jJ hy];rfl) (by simp only[iY];omega) (by simp only[iY];omega) (.inr rfl) (ys:=((y.ks++[w]).map (vY a)).map dJ) (by rw[List.map_append,List.map_append];rfl) (n2:=((y.ks++[w]).map (vY a)).length) (by rw[List.map_append,jd];rfl) λb40 c40=>?_
   refine iU rfl (aj rfl (rF (y:=dJ (Fq y.rs (vY a w))) sl.dw (VC.d _).vd rfl (by decide) ?_))
   refine xZ sl.dw rfl rfl rfl (dA ..).symm (VC.d _) (λy hy=>by rw[jJ hy];rfl) (by simp only[iY];omega) (by simp only[iY];omega) (.inr rfl) (ys:=((y.rs++[newR y.rs (vY a w)]).map iM).map dJ) (by rw[hun,List.map_append];rfl) (n2:=((y.rs++[newR y.rs (vY a w)]).map iM).length) (by rw[hun,jd];rfl) λb44 c44=>?_
   refine pV rfl (pV rfl (pV rfl (OL.nil (AW.sg hE rfl (aF rfl (OL.nil (AW.block ?_)))))));refine AW.aY (α:=Nat × List D × Nat × Nat) [(1,_),(2,_),(3,_),(4,_),(5,_),(6,_),(8,_)] [(1,_),(36,_),(40,_),(44,_)] (λ(s,U,b,c)=>[(7,.xu 57 b 1 U.length (Q++cu s w).length c),(11,.d (dI ((s:Int)+1)))]) (λ(s,U,b,c)=>[(57,.row b (U.length+c) T.ints 1 (U++(Q++cu s w).map ints))]) (λ(s,U,b,c)=>s<=a.sym) (λ(s,U,b,c)=>a.sym-s) (0,P0++[ints w],d0,c0) (.cons (iw rfl) (.cons (xK rfl) (.cons (xK rfl) (.cons (zA rfl) (.cons (zA rfl) (.cons (zA rfl) (.cons (di rfl) .nil))))))) (.cons (je rfl) (.cons (qZ rfl) (.cons (qZ rfl) (.cons (qZ rfl) .nil)))) ⟨Nat.zero_le _,.cons (by rw[show (P0++[ints w]).length=P0.length+1 from jd,show cu 0 w=[] from rfl,List.append_nil];exact bW.refl _) (.cons (bW.int (by omega)) .nil),.cons (by rw[show cu 0 w=[] from rfl,List.append_nil];exact G6) .nil⟩ ?_
   rintro⟨s,U,b,c⟩ h1
   have h1:s<=a.sym:=h1;have hkn:=Aj s w;refine AW.seq (AW.sg hE rfl (aj rfl (bC fd.lX rfl rfl (aG ce.int rfl rfl rfl (yM rfl rfl rfl (OL.nil (AW.cond rfl (λh48=>?_) (λh48=>?_))))))))
   .try simp only[fD] at h48
    refine AW.skip (AW.seq (AW.block ?_));have hsk:s<a.sym:=by omega
    have hkl2:(Q++cu (s+1) w).length=(Q++cu s w).length+1:=by rw[xU,<- List.append_assoc,jd];rfl
    have hkm:(Q++cu s w).map ints++[ints (w++[(s:Int)+1])]=(Q++cu (s+1) w).map ints:=by rw[xU,<- List.append_assoc];exact (List.map_append (f:=ints) (l₁:=Q++cu s w) (l₂:=[(w++[(s:Int)+1])])).symm
    have hqs:(Q++cu s w).length<=1010:=by rw[jd,Aj];omega
    have MN:U.length+(Q++cu s w).length=(U++(Q++cu s w).map ints).length:=by rw[show (U++(Q++cu s w).map ints).length=U.length+((Q++cu s w).map ints).length from jd,dA]
    refine AW.rg hE rfl (mvB rfl (aj rfl (aj rfl (rF (y:=dI ((s:Int)+1)) sl.ints (VC.d _).vd rfl (by decide) (bH rfl vL (Vb (w:=w) (u:=[(s:Int)+1]) (by omega) (ay rfl)) (rF (y:=ints (w++[(s:Int)+1])) sl.gB (VC.d _).vd rfl (by decide) (apB sl.gB rfl rfl rfl MN (VC.d _) (λy hy=>by rw[jJ hy];rfl) (by simp only[iY];omega) (by simp only[iY];omega) (.inr rfl) λNS k57=>?_)))))))
    rw[aD0,List.append_assoc];refine asB rfl (OL.nil ?_);refine AW.to ([(1,.ptr 1 b1 0),(2,.mt),(3,.mt),(4,.bI 36 b36 (y.ks++[w]).length c36),(5,.bI 40 b40 ((y.ks++[w]).map (vY a)).length c40),(6,.bI 44 b44 ((y.rs++[newR y.rs (vY a w)]).map iM).length c44),(8,.d (ints w)),(11,.d (dI ((s:Int)+1)))]++[(7,.xu 57 NS 1 (qP k57 U).length (Q++cu (s+1) w).length (k57 / 2))]) ([(1,.box b1 T.Auto [.d (dI 1),.d (.sl []),.d (dI a.sym),.d (dI a.st),.d (qG a.ini),.d (qG a.fin),.d (jW a.aN)]),(36,.row b36 c36 T.ints 1 ((y.ks++[w]).map ints)),(40,.row b40 c40 T.bg 1 (((y.ks++[w]).map (vY a)).map dJ)),(44,.row b44 c44 T.bg 1 (((y.rs++[newR y.rs (vY a w)]).map iM).map dJ))]++[(57,.row NS ((qP k57 U).length+k57 / 2) T.ints 1 (qP k57 U++(Q++cu (s+1) w).map ints))]) (Knows.app (.cons vR (.cons vR (.cons vR (.cons vR (.cons vR (.cons vR (.cons vR (.cons vR (.nil))))))))) (.cons (by rw[La,hkl2];exact bW.refl _) .nil)) (dL.app (.cons rfl (.cons rfl (.cons rfl (.cons rfl (.nil))))) (.cons (by rw[La,<- hkm];rfl) .nil)) ?_
    generalize qP k57 U=P3;generalize k57 / 2=c3;refine AW.rg hE rfl (aj rfl (aI rfl rfl (by omega) (aF rfl (OL.nil ?_))))
    exact AW.again (x:=(s,U,b,c)) (s+1,P3,NS,c3) (by (simp only[];omega)) ⟨by omega,Knows.app .rq7 (.cons vR (.cons (bW.int (by omega)) .nil)),dL.app (.cons rfl (.cons rfl (.cons rfl (.cons rfl .nil)))) (.cons rfl .nil)⟩
   .try simp only[fD] at h48
    refine AW.exit ?_;obtain rfl:s=a.sym:=(by omega)
    exact AW.again (x:=(y,w::Q,P0,d0,c0+1,bw,cw,bb,cb,br,cr)) ((⟨y.ks++[w],y.rs++[newR y.rs (vY a w)]⟩:y7),Q++cu a.sym w,U,b,c,b36,c36,b40,c40,b44,c44) (by exact hnt.2) ⟨⟨hnt.1,by have h9:iP (ah [a]) (Q++cu a.sym w) (⟨y.ks++[w],y.rs++[newR y.rs (vY a w)]⟩:y7).rs<iP (ah [a]) (w::Q) y.rs:=hnt.2;omega⟩,Knows.app .yU .LV,dL.app (.cons rfl .nil) (.cons rfl (.cons rfl (.cons rfl (.cons rfl .nil))))⟩
 .have hQ:Q.length=0:=by have:=nZ hQ;omega
  obtain rfl:Q=[]:=Hl hQ;refine AW.exit (AW.sg hE rfl (iU rfl (iU rfl (pV rfl (pV rfl (OL.nil ?_))))));exact AW.ret ⟨y,hI,⟨_,.tmp rfl (.tmp rfl .nil),_,.cons (RO.all rfl rfl (dA ..).symm rfl) (.cons (RO.all rfl rfl (dA ..).symm rfl) .nil),rfl⟩,λid blk hk=>by cases hk⟩
theorem aG8 {a:Au}(f:Au.Fw a):ai P F.yO [yV a] (.mM [.d (.sl ((jU (ah [a])).map ints)),.d (.sl ((tV (ah [a]) (jU (ah [a]))).map dJ))]) :=
 TK (an7 f) λy hy=>by
  have e:y.ks.map (vY a)=tV (ah [a]) y.ks:=List.map_congr_left λu hu=>CS f.ok (by have:=hy.vF u hu;rwa [xE] at this)
  rw[e,hy.bas]
theorem aG9 {a:Au}(h:a.Ok)(za:a.Sz 134217728 20)(s2:a.st<=64)(ff:(lF a).Fw):ai P F.BP [yV a] (.mM [.d (.sl ((jU (ah [a])).map ints)),.d (.sl ((tV (ah [a]) (jU (ah [a]))).map dJ))]):=by
 refine ai.intro fn.BP (by rfl) (by rfl) (ay (by rfl)) λE hE=>(AW.sg hE rfl (iO rfl rfl λb1=>(jK rfl (jK rfl (OL.nil (AW.sg hE rfl (aQ ag.Auto rfl rfl (vs:=[_,_,_,_,_,_,_]) rfl (ay rfl) ?_)))))))
 refine bH rfl vL (Lp (a:=a) h za s2) (bH rfl vL (aG8 (a:=lF a) ff) ?_);rw[(Sr a).JD];exact ex rfl rfl (ex rfl rfl (aF rfl (aF rfl (OL.nil (AW.ret (aP.r ⟨_,.tmp rfl (.tmp rfl .nil),_,.cons (.le vR) (.cons (.le vR) .nil),rfl⟩))))))
theorem Vd {a:Au}{s:Nat}(f:Au.Fit a s)(rz:(pJ a).Sz 134217728 20)(ff:(lF (pJ a)).Fw):ai P F.Es [yV a] (.d (.sl ((tV (aA (ah [a])) (jU (aA (ah [a])))).map dJ))):=by
 refine ai.intro fn.Es (by rfl) (by rfl) (ay (by rfl)) λE hE=>(AW.sg hE rfl (iO rfl rfl λb1=>(jK rfl (OL.nil (AW.sg hE rfl (aQ ag.Auto rfl rfl (vs:=[_,_,_,_,_,_,_]) rfl (ay rfl) (bH rfl vL (Qn f) ?_)))))))
 refine Di rfl (ex rfl rfl (ex rfl rfl (al z.Auto rfl λb3=>(fA sz.Auto rfl rfl rfl rfl rfl (ay rfl) (cells2:=[_,_,_,_,_,_,_]) rfl (aF rfl (OL.nil (AW.sg hE rfl ?_)))))));refine aQ ag.Auto rfl rfl (vs:=[_,_,_,_,_,_,_]) rfl (ay rfl) (bH rfl vL (aG9 (a:=pJ a) f.ok.rev rz f.st ff) ?_);rw[D8];refine Di rfl (ex rfl rfl (ex rfl rfl (aF rfl (aF rfl (OL.nil (AW.sg hE rfl (aj rfl ?_)))))));exact aF rfl (OL.nil (AW.ret (aP.r ⟨_,.tmp rfl .nil,.le vR⟩)))
theorem TL {m:bV}{L:List (List Int)}{u:List Int}{i:Nat}(hi:i<L.length):(aZ m L u).take (i+1)=(aZ m L u).take i++[(aZ m L u).getD i 0]:=iL 0 (by rw[fU];exact hi)
theorem TM {m:bV}{B:Nat}{y:y7}(h:gu m B [] y)(n6:m.n<=6):(jU m).length<=6/\(∀ u,u ∈ jU m->u.length<=5)/\∀ u,u ∈ jU m->iV m.k u:=by
 rw[<- h.bas];exact⟨Nat.le_trans h.b.few.2 n6,h.b.five n6,h.vF⟩
theorem ug {m:bV}{e:Nat}{L:List (List Int)}{u:List Int}(z6:m.Sz e)(hu:u.length<=5)(hL:∀ l,l ∈ L->l.length<=5)(j:Nat):sz ((aZ m L u).getD j 0)<=16777215:=Nat.le_trans (aQ9 z6 hu hL j) (by decide)
structure Au.Rk (a:Au) (s:Nat):Prop where
 take:Au.Take a s
 wt:Au.Wt a
 s4:s<=4
 rz:(pJ a).Sz 134217728 20
 fa:a.Fw
 ff:(lF a).Fw
 fr:(lF (pJ a)).Fw
theorem aH0 {a:Au}{w:List Int}{L:List (List Int)}{s:Nat}(k:Au.Rk a s)(hw:iV a.sym w)(hl:w.length<=6)(nl:L.length<=6)(hL:∀ l,l ∈ L->l.length<=6):ai P F.xN [yV a,.d (.sl ((tV (aA (ah [a])) L).map dJ)),.d (ints w)] (.d (dJ (aZ (ah [a]) L w))):=by
 obtain⟨ok,fl,z6,hn⟩:=k.fa.Qe;have n6:=z6.n6;have hvl:(aZ (ah [a]) L w).length=L.length:=fU;have hll:=J4 (m:=(aA (ah [a]))) (L:=L);refine ai.intro fn.xN (by rfl) (by rfl) (ay (by rfl)) λE hE=>(AW.sg hE rfl (iO rfl rfl λb3=>(jK rfl (OL.nil (AW.sg hE rfl (aQ ag.Auto rfl rfl (vs:=[_,_,_,_,_,_,_]) rfl (ay rfl) (bH rfl vL (Lp (a:=a) k.take.fit.ok k.take.fit.sz k.take.fit.st) ?_)))))))
 refine aj rfl (bH rfl vL (IJ (a:=lF a) (w:=w) k.ff hw hl) ?_);rw[Xl k.take.fit.ok hw,CS k.take.fit.ok hw];refine aF rfl (OL.nil (AW.sg hE rfl (jK rfl (OL.nil (AW.seq (AW.seq (AW.own 8 28 T.Rat 3 rfl rfl ?_)))))));refine AW.rg hE rfl (aF rfl (OL.nil (AW.block ?_)));refine AW.aY (α:=Nat × Nat × Nat) [(1,_),(6,_),(7,_)] [] (λ(i,bq,cq)=>[(8,.bI 28 bq i cq),(9,.d (dI i))]) (λ(i,bq,cq)=>[(28,.row bq cq T.Rat 3 (((aZ (ah [a]) L w).take i).map dQ))]) (λ(i,bq,cq)=>i<=L.length) (λ(i,bq,cq)=>L.length-i) (0,0,0) (.cons (di rfl) (.cons (xK rfl) (.cons (di rfl) .nil))) .nil ⟨Nat.zero_le _,.iW,.cons rfl .nil⟩ ?_
 rintro⟨i,bq,cq⟩ h1
 have h1:i<=L.length:=h1;refine AW.seq (AW.sg hE rfl (aj rfl (aj rfl (fF sl.dw rfl rfl (bG rfl rfl rfl (OL.nil (AW.cond rfl (λh17=>?_) (λh17=>?_))))))))
 .try simp only[fD] at h17
  refine AW.skip (AW.seq (AW.block ?_));have hi:i<L.length:=by omega
  refine AW.rg hE rfl (iU rfl (aj rfl (aj rfl (aj rfl (dR sl.dw [] rfl rfl (by omega) rfl rfl (iE ce.bg rfl ?_))))))
  rw[XA hi];refine bH rfl vL (aG4 (v:=bF (ah [a]) w) (u:=bF (aA (ah [a])) (L.getD i [])) (n:=(ah [a]).n) (jl ok w) (jl (iH ok) _) (by omega) (λj=>Nat.le_trans (jY z6 hl j) (by decide)) (λj=>Nat.le_trans (jY z6.turn (hL _ (getD_mem hi [])) j) (by decide))) ?_
  rw[<- Xm hi];refine rF (y:=dQ ((aZ (ah [a]) L w).getD i 0)) sl.bg BJ rfl (by decide) ?_
  refine xZ sl.bg rfl rfl rfl (by rw[dA,List.length_take];omega) (VC.d _) (λy hy=>by rw[jJ hy];rfl) (by simp only[iY];omega) (by simp only[iY];omega) (.inr rfl) (ys:=((aZ (ah [a]) L w).take (i+1)).map dQ) (by rw[TL hi,List.map_append];rfl) (n2:=i+1) rfl λb28 c28=>?_
  exact pV rfl (OL.nil (AW.rg hE rfl (aj rfl (aI rfl rfl (by omega) (aF rfl (OL.nil (AW.again (x:=(i,bq,cq)) (i+1,b28,c28) (by (simp only[];omega)) ⟨by omega,Knows.app .yU .iW,.cons rfl .nil⟩)))))))
 .try simp only[fD] at h17
  refine AW.exit (AW.seq ?_);obtain rfl:i=L.length:=by omega
  exact AW.rg hE rfl (iU rfl (pV rfl (OL.nil (AW.ret (aP.r ⟨_,.tmp rfl .nil,RO.all rfl rfl (by rw[dA,List.length_take];omega) (by rw[List.take_of_length_le (by omega)])⟩)))))
end Go.Proofs.YtanlenlmihoiiaaGreatDoor
namespace Go.AL
open Go Go.BigFrame
def y8 (h:List Int->List Int->Rat)(K:List (List Int))(c:Nat->Rat)(l:List Int):Rat:=bD (λi=>c i*h (K.getD i []) l) K.length
structure l7 (k:Nat) (h:List Int->List Int->Rat) (K:List (List Int)):Prop where
 ord:K.Pairwise λa b=>mG a b<0
 vF:∀ u,u ∈ K->iV k u
 reach:∀ w,iV k w->∃ c:Nat->Rat,(∀ i,i<K.length->0<mG (K.getD i []) w->c i=0)/\∀ l,iV k l->h w l=y8 h K c l
 ind:∀ c:Nat->Rat,(∀ l,iV k l->y8 h K c l=0)->∀ i,i<K.length->c i=0
section
variable {k:Nat}{h g:List Int->List Int->Rat}{K K':List (List Int)}{c:Nat->Rat}{u w:List Int}
theorem aH1 {d:Nat->Rat}{l:List Int}:y8 h K (λi=>c i-d i) l=y8 h K c l-y8 h K d l:=by
 unfold y8;rw[aJ (g:=λi=>c i*h (K.getD i []) l + -1*(d i*h (K.getD i []) l)) λi _=>by show (c i-d i)*_=_;rw[Rat.sub_eq_add_neg,Rat.add_mul,Rat.neg_mul,Rat.neg_mul,Rat.one_mul],pq,iq,Rat.neg_mul,Rat.one_mul,Rat.sub_eq_add_neg]
theorem aH2 {i:Nat}(hi:i<K.length)(l:List Int):y8 h K (λj=>if i=j then 1 else 0) l=h (K.getD i []) l:=by
 unfold y8;rw[aJ (g:=λj=>if i=j then h (K.getD j []) l else 0) λj _=>by
  show (if i=j then (1:Rat) else 0)*_=_
  split
  .rw[Rat.one_mul]
  .rw[Rat.zero_mul]]
 exact vO (v:=λj=>h (K.getD j []) l) hi
theorem Ls {i:Nat}(hi:i<K.length):K.getD i [] ∈ K:=getD_mem hi []
theorem l7.only (f:l7 k h K){d:Nat->Rat}(e:∀ l,iV k l->y8 h K c l=y8 h K d l){i:Nat}(hi:i<K.length):c i=d i:=by
 have:=f.ind (λi=>c i-d i) (λl hl=>by rw[aH1,e l hl,Rat.sub_self]) i hi
 exact aP6 this
theorem an8 {d:Nat->Nat->Rat}{l:List Int}(e:∀ j,j<K'.length->h (K'.getD j []) l=y8 h K (d j) l):y8 h K' c l=y8 h K (λi=>bD (λj=>c j*d j i) K'.length) l:=by
 have e1:y8 h K' c l=bD (λj=>c j*bD (λi=>d j i*h (K.getD i []) l) K.length) K'.length:=aJ λj hj=>by rw[e j hj];rfl
 rw[e1];unfold y8;exact (Gl c (λj i=>d j i) (λi=>h (K.getD i []) l)).symm
theorem l7.mem_of (f:l7 k h K)(f':l7 k h K')(hu:u ∈ K):u ∈ K':=by
 refine Decidable.byContradiction λhn=>?_;obtain⟨i,hi,e⟩:=List.mem_iff_getElem.1 hu;have eg:K.getD i []=u:=by rw[jh,lQ hi,Option.getD_some,e]
 obtain⟨c,c0,hc⟩:=f'.reach u (f.vF u hu);have ex:∀ j:Nat,∃ d:Nat->Rat,j<K'.length->(∀ i,i<K.length->0<mG (K.getD i []) (K'.getD j [])->d i=0)/\∀ l,iV k l->h (K'.getD j []) l=y8 h K d l:=λj=>by
  by_cases hj:j<K'.length
  .obtain⟨d,hd⟩:=f.reach _ (f'.vF _ (Ls hj));exact⟨d,λ_=>hd⟩
  .exact⟨λ_=>0,λx=>absurd x hj⟩
 obtain⟨d,hd⟩:=Classical.axiomOfChoice ex;have h1:∀ l,iV k l->y8 h K (λj=>if i=j then 1 else 0) l=y8 h K (λi=>bD (λj=>c j*d j i) K'.length) l:=λl hl=>by
  rw[aH2 hi,eg,hc l hl];exact an8 λj hj=>(hd j hj).2 l hl
 have h2:=f.only h1 hi;rw[if_pos rfl] at h2;have h3:bD (λj=>c j*d j i) K'.length=0:=kR λj hj=>by
  by_cases hp:0<mG (K'.getD j []) u
  .rw[c0 j hj hp,Rat.zero_mul]
  .have hne:K'.getD j []≠u:=λe=>hn (e ▸ Ls hj);have hlt:mG (K'.getD j []) u<0:=Tz (by omega) hne
   have hgt:0<mG (K.getD i []) (K'.getD j []):=by
    rw[eg];have:=E5 (K'.getD j []) u;omega
   rw[(hd j hj).1 i hi hgt,Rat.mul_zero]
 rw[h3] at h2;exact absurd h2 (by decide)
theorem l7.unique (f:l7 k h K)(f':l7 k h K'):K=K':=Lj f.ord f'.ord λ_=>⟨f.mem_of f',f'.mem_of f⟩
theorem l7.congr (f:l7 k h K)(e:∀ u l,iV k u->iV k l->g u l=h u l):l7 k g K:=by
 have el:∀ (c:Nat->Rat) l,iV k l->y8 g K c l=y8 h K c l:=λc l hl=>aJ λi hi=>by rw[e _ l (f.vF _ (Ls hi)) hl]
 refine⟨f.ord,f.vF,λw hw=>?_,λc hc=>f.ind c λl hl=>by rw[<- el c l hl];exact hc l hl⟩
 obtain⟨c,c0,hc⟩:=f.reach w hw;exact⟨c,c0,λl hl=>by rw[e w l hw hl,hc l hl,el c l hl]⟩
theorem yJ (h:iV k w):iV k w.reverse:=λx hx=>h x (List.mem_reverse.1 hx)
theorem l7.rev (f:l7 k h K):l7 k (λu l=>h u l.reverse) K :=
 ⟨f.ord,f.vF,λw hw=>by
  obtain⟨c,c0,hc⟩:=f.reach w hw;exact⟨c,c0,λl hl=>hc _ (yJ hl)⟩,λc hc=>f.ind c λl hl=>by
  have:=hc l.reverse (yJ hl);unfold y8 at this ⊢
  dsimp only at this
  rw[List.reverse_reverse] at this;exact this⟩
end
section
variable {n k:Nat}{K:List (List Int)}{f:List Int->List Rat}{u:Nat->Rat}{rs:List bZ}
theorem Zn {p:List Int->Bool}(h:dh n ((K.filter p).map f) u):∃ c:Nat->Rat,(∀ i,i<K.length->p (K.getD i [])=false->c i=0)/\∀ j,j<n->u j=bD (λi=>c i*(f (K.getD i [])).getD j 0) K.length:=by
 induction h with
 | zero h=>exact⟨λ_=>0,λ_ _ _=>rfl,λj hj=>by rw[h j hj];exact (kR λi _=>Rat.zero_mul _).symm⟩
 | @add u u' b a hb _ h ih =>
  obtain⟨c,c0,hc⟩:=ih;obtain⟨z,hz,rfl⟩:=kK hb;obtain⟨hz1,hz2⟩:=List.mem_filter.1 hz;obtain⟨i0,hi0,e⟩:=List.mem_iff_getElem.1 hz1;have eg:K.getD i0 []=z:=by rw[jh,lQ hi0,Option.getD_some,e]
  refine⟨λi=>c i+if i0=i then a else 0,λi hi hp=>?_,λj hj=>?_⟩
  .have hne:i0≠i:=λx=>by rw[<- x,eg,hz2] at hp;cases hp
   show c i+(if i0=i then a else 0)=0
   rw[c0 i hi hp,if_neg hne,Rat.add_zero]
  .rw[h j hj,hc j hj];rw[aJ (f:=λi=>(c i+if i0=i then a else 0)*(f (K.getD i [])).getD j 0) (g:=λi=>c i*(f (K.getD i [])).getD j 0+if i0=i then a*(f (K.getD i [])).getD j 0 else 0) λi _=>by
    rw[Rat.add_mul];congr 1
    split
    .rfl
    .rw[Rat.zero_mul],pq,vO (v:=λi=>a*(f (K.getD i [])).getD j 0) hi0,eg]
theorem Zo {c:Nat->Rat}{i0:Nat}(h0:c i0=0)(e:∀ j,j<n->u j=bD (λi=>c i*(f (K.getD i [])).getD j 0) K.length):dh n ((K.eraseIdx i0).map f) u:=by
 have key:∀ t,t<=K.length->dh n ((K.eraseIdx i0).map f) λj=>bD (λi=>c i*(f (K.getD i [])).getD j 0) t:=by
  intro t
  induction t with
  | zero=>intro _;exact .zero λ_ _=>rfl
  | succ t ih =>
   intro ht;by_cases hti:t=i0
   .refine (ih (by omega)).congr λj _=>?_
    rw[bD,hti,h0,Rat.zero_mul,Rat.add_zero]
   .refine .add (b:=f (K.getD t [])) (c t) (List.mem_map.2 ⟨K.getD t [],?_,rfl⟩) (ih (by omega)) λj _=>by rw[bD]
    refine List.mem_eraseIdx_iff_getElem.2 ⟨t,by omega,hti,?_⟩
    rw[jh,lQ (by omega)];rfl
 exact (key K.length (Nat.le_refl _)).congr e
theorem aV4 (e:Np n rs)(hl:rs.length=K.length)(hr:∀ r,r ∈ rs->dh n (K.map f) (vf r.v)){c:Nat->Rat}(h:∀ j,j<n->bD (λi=>c i*(f (K.getD i [])).getD j 0) K.length=0):∀ i,i<K.length->c i=0:=by
 intro i0 hi0;refine Decidable.byContradiction λhne=>?_;have h1:dh n ((K.eraseIdx i0).map f) (vf (f (K.getD i0 []))):=by
  refine Zo (c:=λi=>if i0=i then 0 else -(1 / c i0)*c i) (if_pos rfl) λj hj=>?_
  have e1:bD (λi=>(if i0=i then 0 else -(1 / c i0)*c i)*(f (K.getD i [])).getD j 0) K.length = -(1 / c i0)*bD (λi=>c i*(f (K.getD i [])).getD j 0) K.length+bD (λi=>if i0=i then (1 / c i0)*c i*(f (K.getD i [])).getD j 0 else 0) K.length:=by
   rw[<- iq,<- pq];refine aJ λi _=>?_
   split
   .rw[Rat.zero_mul,Rat.neg_mul,<- Rat.mul_assoc,Rat.neg_add_cancel]
   .rw[Rat.add_zero,Rat.mul_assoc]
  rw[e1,h j hj,Rat.mul_zero,Rat.zero_add,vO (v:=λi=>(1 / c i0)*c i*(f (K.getD i [])).getD j 0) hi0,Rat.div_mul_cancel hne,Rat.one_mul]
 have h2:∀ r,r ∈ rs->dh n ((K.eraseIdx i0).map f) (vf r.v):=λr hr'=>(hr r hr').trans λb hb=>by
  obtain⟨z,hz,rfl⟩:=kK hb;by_cases hzm:z ∈ K.eraseIdx i0
  .exact .mem (List.mem_map.2 ⟨z,hzm,rfl⟩)
  .obtain⟨t,ht,rfl⟩:=List.mem_iff_getElem.1 hz;have hti:t=i0:=Decidable.byContradiction λhx=>hzm (List.mem_eraseIdx_iff_getElem.2 ⟨t,ht,hx,rfl⟩);subst hti;have eg:K[t]=K.getD t []:=by rw[jh,lQ ht];rfl
   rw[eg];exact h1
 have h3:=F8 _ rs e h2;rw[dA,List.length_eraseIdx,if_pos hi0] at h3;omega

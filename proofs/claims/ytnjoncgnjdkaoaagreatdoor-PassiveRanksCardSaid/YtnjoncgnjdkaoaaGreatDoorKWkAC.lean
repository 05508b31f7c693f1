/-
  Walks of layer 23 of the specification, part 3: the search for a basis (printed by mk2.py).
-/
import Derived.Test.YtnjoncgnjdkaoaaGreatDoorKWkAB
set_option linter.unusedVariables false
set_option linter.unusedSimpArgs false
namespace Go.Proofs.YtnjoncgnjdkaoaaGreatDoor
open Go Go.AL
theorem ZR {α:Type}{P:Program}{f:Nat}{args:List V}{res:α->V}{r:V}{φ:α->Prop}(h:rJ P f args jM res (λ_=>jM) φ)(hr:∀ x,φ x->res x=r):aj P f args r :=
 aj.aa6 ⟨h.1,λF w vals hS hv=>(h.2 F w vals hS hv).mono λe w' ⟨x,hx,v,F',k1,k2,k3⟩=>⟨v,F',k1,k2,hr x hx ▸ k3⟩⟩
theorem Qq {U:List D}{d:D}{R:List D}{b e c:Nat}:some (iF.row b (U.length+(c+1)) e 1 (U++d::R))=some (iF.row b ((U++[d]).length+c) e 1 ((U++[d])++R)):=by
 rw[List.append_assoc,iU,show U.length + [d].length+c=U.length+(c+1) by rw[jL];omega];rfl
theorem aR2 {a:Au}(f:a.Fw){w:List Int}(hw:iV a.sym w)(hl:w.length<=6)(j:Nat):sz ((pX a w).getD j 0)<=16777215:=by
 have h:=Rj f hw hl w.length j
 rwa [List.take_length] at h
theorem aq5 {n:Nat}{rs:List bJ}{v:List Rat}(sp:pK n 16777215 rs)(n6:n<=6)(zv:∀ i,sz (v.getD i 0)<=16777215)(j:Nat):sz ((Dz rs v).getD j 0)<=274877906944:=by
 have h:=(sp.sz.last (Nat.le_trans sp.le n6) zv).1;unfold Dz
 split
 .exact Nat.le_trans (Nr h j) (by decide)
 .exact Nat.le_trans (h j) (by decide)
theorem aq6 {m:dZ}{L:List (List Int)}{i:Nat}(hi:i<L.length):(vV m L).getD i []=bQ m (L.getD i []):=by
 unfold vV;rw[gI,List.getElem?_map,kL hi,gI,kL hi];rfl
theorem Va {m:dZ}{L:List (List Int)}:(vV m L).length=L.length:=dD ..
theorem aR3 {w u:List Int}(nw:w.length<=1000)(nu:u.length<=1000):aj P F.CS [.d (ints w),.d (ints u)] (.d (ints (w++u))):=by
 refine aj.intro fn.CS (by rfl) (by rfl) (aA (by rfl)) λE hE=>?_
 refine AW.sg hE rfl ?_;refine jg rfl ?_;refine OL.nil ?_;refine AW.sg hE rfl ?_;refine ai rfl ?_;refine apM sl.ints rfl rfl (VC.d _) U6 (by simp;omega) (by simp;omega) rfl λb6 c6=>?_
 refine ai rfl (ad2 sl.ints rfl rfl rfl rfl (VC.d _) U6 (by simp;omega) (by simp;omega) (.inl rfl) (ys:=(w++u).map dI) (by rw[List.map_append]) ?_)
 refine aC rfl ?_;refine OL.nil ?_;exact AW.ret (aO.r ⟨_,.tmp rfl .nil,.le vR⟩)
theorem Vb {a:Au}{s:Nat}(f:Au.Fit a s)(w:Au.Wt a):aj P F.zW [zG a] (.d (dI 0)):=by
 refine aj.intro fn.zW (by rfl) (by rfl) (aA (by rfl)) λE hE=>(AW.sg hE rfl (gW rfl rfl λb1=>(aC rfl (OL.nil (AW.seq (AW.block (AW.sg hE rfl ?_)))))))
 refine aN ag.Auto rfl rfl (vs:=[_,_,_,_,_,_,_]) rfl (aA rfl) (bF rfl vL (RD (a:=a) f.ok f.sz f.s1 f.st) (nt rfl (aC rfl (OL.nil (oz rfl ?_)))));refine AW.sg hE rfl (aV fd.jc rfl rfl (aV fd.nG rfl rfl (aG ce.int rfl rfl rfl (fC rfl rfl (c:=false) (nZ rfl) (aC rfl (OL.nil (oz rfl ?_)))))));refine AW.sg hE rfl (aN ag.Auto rfl rfl (vs:=[_,_,_,_,_,_,_]) rfl (aA rfl) (bF rfl vL (Yk w) (nt rfl (aC rfl (OL.nil (oz rfl ?_))))));exact AW.skip (AW.sg hE rfl (aC rfl (OL.nil (AW.ret (aO.r ⟨_,.tmp rfl .nil,.le vR⟩)))))
set_option maxRecDepth 8000 in
set_option maxHeartbeats 6400000 in
theorem ZT {a:Au}(f:Au.Fw a):rJ P F.qy [zG a] jM (λy:MZ=>.jE [.d (.sl (y.ks.map ints)),.d (.sl ((y.ks.map (pX a)).map iG))]) (λ_=>jM) (λy=>kH (aY [a]) 16777215 [] y):=by
 obtain⟨ok,fl,z6,hn⟩:=f.Uy;have n6:=z6.n6;have hst:=f.few.st;have hst1:=f.st1;have s4:=f.s4;have hk:(aY [a]).k=a.sym:=JG;have bj5:kG (aY [a]) [[]] ([]:List bJ)<=1000:=by
   unfold kG;have:=Nat.mul_le_mul (show (aY [a]).k+1<=5 by omega) (show (aY [a]).n-([]:List bJ).length<=6 by omega)
   simp only[jL];omega
 refine rJ.intro fn.qy (by rfl) (by rfl) (aA (by rfl)) λE hE=>(AW.sg hE rfl (gW rfl rfl λb1=>(jg rfl (jg rfl (OL.nil (AW.sg hE rfl (jg rfl ?_)))))))
 refine OL.nil (AW.seq (AW.own 4 36 T.ints 1 rfl rfl (AW.rg hE rfl (jg rfl (jg rfl (OL.nil (AW.seq ?_)))))));refine AW.seq (AW.own 5 40 T.bT 1 rfl rfl (AW.own 6 44 T.bT 1 rfl rfl (AW.rg hE rfl (aV fd.jW rfl rfl (aG ce.int rfl rfl rfl (dG rfl rfl (c:=false) (by exact decide_eq_false (by omega)) (OL.nil ?_)))))))
 refine oz rfl ?_;refine AW.skip (AW.sg hE rfl (aL2 (y:=ints []) sl.dX VC.mt.vd rfl (by decide) rfl λb15=>(oC rfl (OL.nil (AW.seq (AW.block (AW.rename 15 57 rfl ?_)))))))
 refine AW.aU (α:=MZ × List (List Int) × List D × Nat × Nat × Nat × Nat × Nat × Nat × Nat × Nat) [(1,_),(2,_),(3,_)] [(1,_)] (λ(y,Q,P0,d0,c0,bw,cw,bb,cb,br,cr)=>[(4,.bH 36 bw y.ks.length cw),(5,.bH 40 bb (y.ks.map (pX a)).length cb),(6,.bH 44 br (y.rs.map dK).length cr),(7,.xG 57 d0 1 P0.length Q.length c0)]) (λ(y,Q,P0,d0,c0,bw,cw,bb,cb,br,cr)=>[(36,.row bw cw T.ints 1 (y.ks.map ints)),(40,.row bb cb T.bT 1 ((y.ks.map (pX a)).map iG)),(44,.row br cr T.bT 1 ((y.rs.map dK).map iG)),(57,.row d0 (P0.length+c0) T.ints 1 (P0++Q.map ints))]) (λ(y,Q,P0,d0,c0,bw,cw,bb,cb,br,cr)=>kH (aY [a]) 16777215 Q y/\kG (aY [a]) Q y.rs<=1000) (λ(y,Q,P0,d0,c0,bw,cw,bb,cb,br,cr)=>kG (aY [a]) Q y.rs) (⟨[],[]⟩,[[]],[],b15,1,0,0,0,0,0,0) (.cons (iJ rfl) (.cons (AO rfl) (.cons (AO rfl) .nil))) (.cons (kC rfl) .nil) ⟨⟨kH.start _ _,bj5⟩,.cons vR (.cons vR (.cons vR (.cons ag3 .nil))),.cons rfl (.cons rfl (.cons rfl (.cons rfl .nil)))⟩ ?_
 rintro⟨y,Q,P0,d0,c0,bw,cw,bb,cb,br,cr⟩ ⟨hI,hm1⟩
 have hI:kH (aY [a]) 16777215 Q y:=hI;have hm1:kG (aY [a]) Q y.rs<=1000:=hm1;have hQl:Q.length<=kG (aY [a]) Q y.rs:=Nat.le_add_right _ _;obtain⟨hf1,hf2⟩:=hI.b.few;have hkl:(y.ks.map (pX a)).length=y.ks.length:=dD ..;have hrl:(y.rs.map dK).length=y.rs.length:=dD ..;refine AW.seq (AW.sg hE rfl (mvB rfl (lnB sl.dX rfl rfl (gV rfl rfl rfl (OL.nil (AW.cond rfl (λhQ=>?_) (λhQ=>?_)))))))
 .have hQ:0<Q.length:=by have:=kK hQ;omega
  refine AW.skip (AW.block (AW.seq (AW.rowLen 57 rfl λhcl=>?_)));rw[iU,dD] at hcl;obtain⟨c0,rfl⟩:∃ c9,c0=c9+1:=⟨c0-1,by omega⟩
  obtain⟨w,Q,rfl⟩:∃ w Q9,Q=w::Q9:=(match Q,hQ with|w::Q9,_=>⟨w,Q9,rfl⟩)
  have hw6:=hI.b.six n6 w vC;have hwi:iV a.sym w:=by
   obtain⟨V,j,_⟩:=hI.join;have:=j.MF.xB w (.inr vC)
   rwa [hk] at this
  have hfv:(pX a w)=bQ (aY [a]) w:=Dq f.ok hwi;have hfl:(pX a w).length=a.st:=Fg f.ok w;have hzv:=aR2 f hwi hw6;rw[List.length_cons] at hQl;refine AW.rg hE rfl (mvB rfl (bf1 (n:=0) sl.dX rfl rfl (by rw[List.length_cons];omega) (i:=P0.length) rfl (N8 ce.ints (by decide) rfl rfl bi0 (d:=ints w) rfl (aC rfl (OL.nil (AW.sg hE rfl (mvB rfl ?_)))))))
  refine bf0 (l:=1) sl.dX rfl rfl (by rw[List.length_cons];omega) (o2:=P0.length+1) rfl (n2:=Q.length) rfl (asB rfl (OL.nil (AW.sg hE rfl (aN ag.Auto rfl rfl (vs:=[_,_,_,_,_,_,_]) rfl (aA rfl) (ai rfl (bF rfl vL (NV f hwi hw6) (aC rfl ?_)))))))
  refine OL.nil (AW.sg hE rfl (gU rfl (ai rfl ?_)));refine ag0 (qm:=[.bH 44 br (y.rs.map dK).length cr,.d (iG (pX a w))]) rfl vL (eF.DI (WW (v:=(pX a w)) (b:=br) (c:=cr) hI.sp hI.lead (by rw[hfl,hn]) n6 hzv) (.cons bG.bH .di)) (bP (id:=44) (blk:=.row br cr T.bT 1 ((y.rs.map dK).map iG)) rfl) ?_
  refine aC rfl (OL.nil (AW.seq (AW.sg hE rfl (ai rfl (bF rfl vL (RH (v:=Dz y.rs (pX a w)) (by rw[Zp];omega) (λj=>aq5 hI.sp n6 hzv j)) (aX rfl rfl rfl (OL.nil ?_)))))))
  refine AW.cond rfl (λhg=>?_) (λhg=>?_)
  .have hg:bg y.rs (pX a w)=false:=Nq.1 (kK hg);have hnf:=(hI.next ok (by decide) (by rw[<- hfv];exact hzv)).2 (by rw[Yf (by rw[<- hfv];exact hg)])
   rw[Yf (by rw[<- hfv];exact hg)] at hnf
   refine AW.exit ?_;exact AW.again (x:=(y,w::Q,P0,d0,c0+1,bw,cw,bb,cb,br,cr)) (y,Q,P0++[ints w],d0,c0,bw,cw,bb,cb,br,cr) (by exact hnf.2) ⟨⟨hnf.1,by have h9:kG (aY [a]) Q y.rs<kG (aY [a]) (w::Q) y.rs:=hnf.2;omega⟩,Knows.app .xf (.cons vR (.cons vR (.cons vR (.cons (by rw[iU];exact bG.refl _) .nil)))),dw.app (.cons rfl .nil) (.cons rfl (.cons rfl (.cons rfl (.cons Qq .nil))))⟩
  .have hg:bg y.rs (pX a w)=true:=Decidable.byContradiction λh9=>by have:=Nq.2 (Bool.eq_false_iff.2 h9);have:=lD hg;omega
   have hnt:=(hI.next ok (by decide) (by rw[<- hfv];exact hzv)).1 (by rw[Ye (by rw[<- hfv];exact hg)])
   rw[Ye (by rw[<- hfv];exact hg),<- hfv,hk] at hnt
   have hun:(y.rs++[newR y.rs (pX a w)]).map dK=y.rs.map dK++[Dz y.rs (pX a w)]:=by rw[WB,PZ hg]
   refine AW.skip (AW.sg hE rfl (gU rfl (ai rfl (xe (y:=ints w) sl.dX (VC.d _).vd rfl (by decide) ?_))))
   refine zB sl.dX rfl rfl rfl (by rw[dD]) (VC.d _) (λy hy=>by rw[kJ hy];rfl) (by simp only[jL];omega) (by simp only[jL];omega) (.inr rfl) (ys:=(y.ks++[w]).map ints) (by rw[List.map_append];rfl) (n2:=(y.ks++[w]).length) (by rw[iU];rfl) λb36 c36=>?_
   refine gU rfl (ai rfl (xe (y:=iG (pX a w)) sl.gB (VC.d _).vd rfl (by decide) ?_))
   refine zB sl.gB rfl rfl rfl (dD ..).symm (VC.d _) (λy hy=>by rw[kJ hy];rfl) (by simp only[jL];omega) (by simp only[jL];omega) (.inr rfl) (ys:=((y.ks++[w]).map (pX a)).map iG) (by rw[List.map_append,List.map_append];rfl) (n2:=((y.ks++[w]).map (pX a)).length) (by rw[List.map_append,iU];rfl) λb40 c40=>?_
   refine gU rfl (ai rfl (xe (y:=iG (Dz y.rs (pX a w))) sl.gB (VC.d _).vd rfl (by decide) ?_))
   refine zB sl.gB rfl rfl rfl (dD ..).symm (VC.d _) (λy hy=>by rw[kJ hy];rfl) (by simp only[jL];omega) (by simp only[jL];omega) (.inr rfl) (ys:=((y.rs++[newR y.rs (pX a w)]).map dK).map iG) (by rw[hun,List.map_append];rfl) (n2:=((y.rs++[newR y.rs (pX a w)]).map dK).length) (by rw[hun,iU];rfl) λb44 c44=>?_
   refine oC rfl (oC rfl (oC rfl (OL.nil (AW.sg hE rfl (aC rfl (OL.nil (AW.block ?_)))))));refine AW.aU (α:=Nat × List D × Nat × Nat) [(1,_),(2,_),(3,_),(4,_),(5,_),(6,_),(8,_)] [(1,_),(36,_),(40,_),(44,_)] (λ(s,U,b,c)=>[(7,.xG 57 b 1 U.length (Q++dh s w).length c),(11,.d (dI ((s:Int)+1)))]) (λ(s,U,b,c)=>[(57,.row b (U.length+c) T.ints 1 (U++(Q++dh s w).map ints))]) (λ(s,U,b,c)=>s<=a.sym) (λ(s,U,b,c)=>a.sym-s) (0,P0++[ints w],d0,c0) (.cons (iJ rfl) (.cons (AO rfl) (.cons (AO rfl) (.cons (yO rfl) (.cons (yO rfl) (.cons (yO rfl) (.cons (bY rfl) .nil))))))) (.cons (kC rfl) (.cons (rY rfl) (.cons (rY rfl) (.cons (rY rfl) .nil)))) ⟨Nat.zero_le _,.cons (by rw[show (P0++[ints w]).length=P0.length+1 from iU,show dh 0 w=[] from rfl,List.append_nil];exact bG.refl _) (.cons (bG.int (by omega)) .nil),.cons (by rw[show dh 0 w=[] from rfl,List.append_nil];exact Qq) .nil⟩ ?_
   rintro⟨s,U,b,c⟩ h1
   have h1:s<=a.sym:=h1;have hkn:=Qh s w;refine AW.seq (AW.sg hE rfl (ai rfl (aV fd.rO rfl rfl (aG ce.int rfl rfl rfl (wZ rfl rfl rfl (OL.nil (AW.cond rfl (λh48=>?_) (λh48=>?_))))))))
   .try simp only[eG] at h48
    refine AW.skip (AW.seq (AW.block ?_));have hsk:s<a.sym:=by omega
    have hkl2:(Q++dh (s+1) w).length=(Q++dh s w).length+1:=by rw[NM,<- List.append_assoc,iU];rfl
    have hkm:(Q++dh s w).map ints++[ints (w++[(s:Int)+1])]=(Q++dh (s+1) w).map ints:=by rw[NM,<- List.append_assoc];exact (List.map_append (f:=ints) (l₁:=Q++dh s w) (l₂:=[(w++[(s:Int)+1])])).symm
    have hqs:(Q++dh s w).length<=1010:=by rw[iU,Qh];omega
    have a97:U.length+(Q++dh s w).length=(U++(Q++dh s w).map ints).length:=by rw[show (U++(Q++dh s w).map ints).length=U.length+((Q++dh s w).map ints).length from iU,dD]
    refine AW.rg hE rfl (mvB rfl (ai rfl (ai rfl (xe (y:=dI ((s:Int)+1)) sl.ints (VC.d _).vd rfl (by decide) (bF rfl vL (aR3 (w:=w) (u:=[(s:Int)+1]) (by omega) (aA rfl)) (xe (y:=ints (w++[(s:Int)+1])) sl.dX (VC.d _).vd rfl (by decide) (apB sl.dX rfl rfl rfl a97 (VC.d _) (λy hy=>by rw[kJ hy];rfl) (by simp only[jL];omega) (by simp only[jL];omega) (.inr rfl) λb57 k57=>?_)))))))
    rw[a00,List.append_assoc];refine asB rfl (OL.nil ?_);refine AW.to ([(1,.ptr 1 b1 0),(2,.mt),(3,.mt),(4,.bH 36 b36 (y.ks++[w]).length c36),(5,.bH 40 b40 ((y.ks++[w]).map (pX a)).length c40),(6,.bH 44 b44 ((y.rs++[newR y.rs (pX a w)]).map dK).length c44),(8,.d (ints w)),(11,.d (dI ((s:Int)+1)))]++[(7,.xG 57 b57 1 (qP k57 U).length (Q++dh (s+1) w).length (k57 / 2))]) ([(1,.box b1 T.Auto [.d (dI 1),.d (.sl []),.d (dI a.sym),.d (dI a.st),.d (tH a.ini),.d (tH a.fin),.d (lK a.aP)]),(36,.row b36 c36 T.ints 1 ((y.ks++[w]).map ints)),(40,.row b40 c40 T.bT 1 (((y.ks++[w]).map (pX a)).map iG)),(44,.row b44 c44 T.bT 1 (((y.rs++[newR y.rs (pX a w)]).map dK).map iG))]++[(57,.row b57 ((qP k57 U).length+k57 / 2) T.ints 1 (qP k57 U++(Q++dh (s+1) w).map ints))]) (Knows.app (.cons vR (.cons vR (.cons vR (.cons vR (.cons vR (.cons vR (.cons vR (.cons vR (.nil))))))))) (.cons (by rw[an8,hkl2];exact bG.refl _) .nil)) (dw.app (.cons rfl (.cons rfl (.cons rfl (.cons rfl (.nil))))) (.cons (by rw[an8,<- hkm];rfl) .nil)) ?_
    generalize qP k57 U=P3;generalize k57 / 2=c3;refine AW.rg hE rfl (ai rfl (aH rfl rfl (by omega) (aC rfl (OL.nil ?_))))
    exact AW.again (x:=(s,U,b,c)) (s+1,P3,b57,c3) (by (simp only[];omega)) ⟨by omega,Knows.app .rq7 (.cons vR (.cons (bG.int (by omega)) .nil)),dw.app (.cons rfl (.cons rfl (.cons rfl (.cons rfl .nil)))) (.cons rfl .nil)⟩
   .try simp only[eG] at h48
    refine AW.exit ?_;obtain rfl:s=a.sym:=(by omega)
    exact AW.again (x:=(y,w::Q,P0,d0,c0+1,bw,cw,bb,cb,br,cr)) ((⟨y.ks++[w],y.rs++[newR y.rs (pX a w)]⟩:MZ),Q++dh a.sym w,U,b,c,b36,c36,b40,c40,b44,c44) (by exact hnt.2) ⟨⟨hnt.1,by have h9:kG (aY [a]) (Q++dh a.sym w) (⟨y.ks++[w],y.rs++[newR y.rs (pX a w)]⟩:MZ).rs<kG (aY [a]) (w::Q) y.rs:=hnt.2;omega⟩,Knows.app .xf .GL,dw.app (.cons rfl .nil) (.cons rfl (.cons rfl (.cons rfl (.cons rfl .nil))))⟩
 .have hQ:Q.length=0:=by have:=lD hQ;omega
  obtain rfl:Q=[]:=Gt hQ;refine AW.exit (AW.sg hE rfl (gU rfl (gU rfl (oC rfl (oC rfl (OL.nil ?_))))));exact AW.ret ⟨y,hI,⟨_,.tmp rfl (.tmp rfl .nil),_,.cons (RO.all rfl rfl (dD ..).symm rfl) (.cons (RO.all rfl rfl (dD ..).symm rfl) .nil),rfl⟩,λid blk hk=>by cases hk⟩
theorem aq7 {a:Au}(f:Au.Fw a):aj P F.qy [zG a] (.jE [.d (.sl ((y9 (aY [a])).map ints)),.d (.sl ((vV (aY [a]) (y9 (aY [a]))).map iG))]) :=
 ZR (ZT f) λy hy=>by
  have e:y.ks.map (pX a)=vV (aY [a]) y.ks:=List.map_congr_left λu hu=>Dq f.ok (by have:=hy.xB u hu;rwa [JG] at this)
  rw[e,hy.bas]
theorem Vd {a:Au}(h:a.Ok)(za:a.Sz 134217728 20)(s2:a.st<=64)(ff:(rQ a).Fw):aj P F.uh [zG a] (.jE [.d (.sl ((y9 (aY [a])).map ints)),.d (.sl ((vV (aY [a]) (y9 (aY [a]))).map iG))]):=by
 refine aj.intro fn.uh (by rfl) (by rfl) (aA (by rfl)) λE hE=>(AW.sg hE rfl (gW rfl rfl λb1=>(jg rfl (jg rfl (OL.nil (AW.sg hE rfl (aN ag.Auto rfl rfl (vs:=[_,_,_,_,_,_,_]) rfl (aA rfl) ?_)))))))
 refine bF rfl vL (NR (a:=a) h za s2) (bF rfl vL (aq7 (a:=rQ a) ff) ?_);rw[(IW a).Ue];exact ex rfl rfl (ex rfl rfl (aC rfl (aC rfl (OL.nil (AW.ret (aO.r ⟨_,.tmp rfl (.tmp rfl .nil),_,.cons (.le vR) (.cons (.le vR) .nil),rfl⟩))))))
theorem aF5 {a:Au}{s:Nat}(f:Au.Fit a s)(rz:(sJ a).Sz 134217728 20)(ff:(rQ (sJ a)).Fw):aj P F.vS [zG a] (.d (.sl ((vV (bI (aY [a])) (y9 (bI (aY [a])))).map iG))):=by
 refine aj.intro fn.vS (by rfl) (by rfl) (aA (by rfl)) λE hE=>(AW.sg hE rfl (gW rfl rfl λb1=>(jg rfl (OL.nil (AW.sg hE rfl (aN ag.Auto rfl rfl (vs:=[_,_,_,_,_,_,_]) rfl (aA rfl) (bF rfl vL (NS f) ?_)))))))
 refine yu rfl (ex rfl rfl (ex rfl rfl (al z.Auto rfl λb3=>(fG sz.Auto rfl rfl rfl rfl rfl (aA rfl) (cells2:=[_,_,_,_,_,_,_]) rfl (aC rfl (OL.nil (AW.sg hE rfl ?_)))))));refine aN ag.Auto rfl rfl (vs:=[_,_,_,_,_,_,_]) rfl (aA rfl) (bF rfl vL (Vd (a:=sJ a) f.ok.rev rz f.st ff) ?_);rw[PX];refine yu rfl (ex rfl rfl (ex rfl rfl (aC rfl (aC rfl (OL.nil (AW.sg hE rfl (ai rfl ?_)))))));exact aC rfl (OL.nil (AW.ret (aO.r ⟨_,.tmp rfl .nil,.le vR⟩)))

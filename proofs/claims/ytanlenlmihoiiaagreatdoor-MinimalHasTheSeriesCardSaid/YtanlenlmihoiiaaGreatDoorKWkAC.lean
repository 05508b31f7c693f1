/-
  Walks of layer 23 of the specification, part 3: the search for a basis (printed by mk2.py).
-/
import Derived.Test.YtanlenlmihoiiaaGreatDoorKWkAB
set_option linter.unusedVariables false
set_option linter.unusedSimpArgs false
namespace Go.Proofs.YtanlenlmihoiiaaGreatDoor
open Go Go.AL
theorem al3 {α:Type}{P:Program}{f:Nat}{args:List V}{res:α->V}{r:V}{φ:α->Prop}(h:jD P f args jA res (λ_=>jA) φ)(hr:∀ x,φ x->res x=r):ai P f args r :=
 ai.ao1 ⟨h.1,λF w vals hS hv=>(h.2 F w vals hS hv).mono λe w' ⟨x,hx,v,F',k1,k2,k3⟩=>⟨v,F',k1,k2,hr x hx ▸ k3⟩⟩
theorem RZ {U:List D}{d:D}{R:List D}{b e c:Nat}:some (iI.row b (U.length+(c+1)) e 1 (U++d::R))=some (iI.row b ((U++[d]).length+c) e 1 ((U++[d])++R)):=by
 rw[List.append_assoc,jd,show U.length + [d].length+c=U.length+(c+1) by rw[kC];omega];rfl
theorem YV {a:Au}(f:a.Fw){w:List Int}(hw:iy a.sym w)(hl:w.length<=6)(j:Nat):sz ((ve a w).getD j 0)<=16777215:=by
 have h:=Ug f hw hl w.length j
 rwa [List.take_length] at h
theorem aF4 {n:Nat}{rs:List dh}{v:List Rat}(sp:qU n 16777215 rs)(n6:n<=6)(zv:∀ i,sz (v.getD i 0)<=16777215)(j:Nat):sz ((EL rs v).getD j 0)<=274877906944:=by
 have h:=(sp.sz.last (Nat.le_trans sp.le n6) zv).1;unfold EL
 split
 .exact Nat.le_trans (WE h j) (by decide)
 .exact Nat.le_trans (h j) (by decide)
theorem aF5 {m:bQ}{L:List (List Int)}{i:Nat}(hi:i<L.length):(xk m L).getD i []=aZ m (L.getD i []):=by
 unfold xk;rw[iO,List.getElem?_map,lF hi,iO,lF hi];rfl
theorem WV {m:bQ}{L:List (List Int)}:(xk m L).length=L.length:=dL ..
theorem aF6 {w u:List Int}(nw:w.length<=1000)(nu:u.length<=1000):ai P F.DL [.d (ints w),.d (ints u)] (.d (ints (w++u))):=by
 refine ai.intro fn.DL (by rfl) (by rfl) (au (by rfl)) λE hE=>?_
 refine AW.sg hE rfl ?_;refine nI rfl ?_;refine OL.nil ?_;refine AW.sg hE rfl ?_;refine aj rfl ?_;refine apM sl.ints rfl rfl (VC.d _) WR (by simp;omega) (by simp;omega) rfl λb6 c6=>?_
 refine aj rfl (aq6 sl.ints rfl rfl rfl rfl (VC.d _) WR (by simp;omega) (by simp;omega) (.inl rfl) (ys:=(w++u).map dI) (by rw[List.map_append]) ?_)
 refine aG rfl ?_;refine OL.nil ?_;exact AW.ret (aT.r ⟨_,.tmp rfl .nil,.le vR⟩)
theorem aF7 {a:Au}{s:Nat}(f:Au.Fit a s)(w:Au.Wt a):ai P F.AB [uY a] (.d (dI 0)):=by
 refine ai.intro fn.AB (by rfl) (by rfl) (au (by rfl)) λE hE=>(AW.sg hE rfl (iG rfl rfl λb1=>(aG rfl (OL.nil (AW.seq (AW.block (AW.sg hE rfl ?_)))))))
 refine aQ ag.Auto rfl rfl (vs:=[_,_,_,_,_,_,_]) rfl (au rfl) (bP rfl vL (GN (a:=a) f.ok f.sz f.s1 f.st) (nt rfl (aG rfl (OL.nil (pW rfl ?_)))));refine AW.sg hE rfl (aV fd.gu rfl rfl (aV fd.kK rfl rfl (aA ce.int rfl rfl rfl (fJ rfl rfl (c:=false) (o6 rfl) (aG rfl (OL.nil (pW rfl ?_)))))));refine AW.sg hE rfl (aQ ag.Auto rfl rfl (vs:=[_,_,_,_,_,_,_]) rfl (au rfl) (bP rfl vL (Nu w) (nt rfl (aG rfl (OL.nil (pW rfl ?_))))));exact AW.skip (AW.sg hE rfl (aG rfl (OL.nil (AW.ret (aT.r ⟨_,.tmp rfl .nil,.le vR⟩)))))
theorem aF8 {a b:Au}{s:Nat}(f:Au.Fit a s)(w:Au.Wt a)(g:Au.Fit b s)(u:Au.Wt b):ai P F.AU [uY a,uY b] (.d (dI 0)):=by
 have hs:a.sym=b.sym:=f.sym.trans g.sym.symm;refine ai.intro fn.AU (by rfl) (by rfl) (au (by rfl)) λE hE=>(AW.sg hE rfl (iG rfl rfl λb2=>(iG rfl rfl λb3=>(aG rfl (OL.nil (AW.seq (AW.block ?_)))))))
 refine AW.sg hE rfl (aQ ag.Auto rfl rfl (vs:=[_,_,_,_,_,_,_]) rfl (au rfl) (bP rfl vL (GN (a:=a) f.ok f.sz f.s1 f.st) (nt rfl (aj rfl (OL.yes rfl (aQ ag.Auto rfl rfl (vs:=[_,_,_,_,_,_,_]) rfl (au rfl) (OL.yes rfl ?_)))))));refine bP rfl vL (GN (a:=b) g.ok g.sz g.s1 g.st) (OL.yes rfl (nt rfl (oI rfl rfl (aG rfl (OL.nil (pW rfl ?_))))));refine AW.sg hE rfl (aV fd.gu rfl rfl (aV fd.kK rfl rfl (aA ce.int rfl rfl rfl (fJ rfl rfl (c:=false) (o6 rfl) (aj rfl (OL.yes rfl (aV fd.gu rfl rfl ?_)))))));refine OL.yes rfl (aV fd.kK rfl rfl (OL.yes rfl (aA ce.int rfl rfl rfl (OL.yes rfl (fJ rfl rfl (c:=false) (o6 rfl) (oI rfl rfl (aG rfl ?_)))))));refine OL.nil (pW rfl ?_);refine AW.sg hE rfl (aQ ag.Auto rfl rfl (vs:=[_,_,_,_,_,_,_]) rfl (au rfl) (bP rfl vL (Nu w) (nt rfl (aj rfl (OL.yes rfl (aQ ag.Auto rfl rfl (vs:=[_,_,_,_,_,_,_]) rfl (au rfl) (OL.yes rfl ?_)))))));refine bP rfl vL (Nu u) (OL.yes rfl (nt rfl (oI rfl rfl (aG rfl (OL.nil (pW rfl ?_))))));refine AW.sg hE rfl (aV fd.kZ rfl rfl (aA ce.int rfl rfl rfl (aV fd.kZ rfl rfl (aA ce.int rfl rfl rfl (fJ rfl rfl (c:=false) (o6 (by rw[hs])) (aG rfl (OL.nil ?_)))))))
 refine pW rfl ?_;exact AW.skip (AW.sg hE rfl (aG rfl (OL.nil (AW.ret (aT.r ⟨_,.tmp rfl .nil,.le vR⟩)))))
set_option maxRecDepth 8000 in
set_option maxHeartbeats 6400000 in
theorem al4 {a:Au}(f:Au.Fw a):jD P F.yh [uY a] jA (λy:BK=>.oM [.d (.sl (y.ks.map ints)),.d (.sl ((y.ks.map (ve a)).map gm))]) (λ_=>jA) (λy=>iw (ah [a]) 16777215 [] y):=by
 obtain⟨ok,fl,z6,hn⟩:=f.Uf;have n6:=z6.n6;have hst:=f.few.st;have hst1:=f.st1;have s4:=f.s4;have hk:(ah [a]).k=a.sym:=tY;have bE7:jM (ah [a]) [[]] ([]:List dh)<=1000:=by
   unfold jM;have:=Nat.mul_le_mul (show (ah [a]).k+1<=5 by omega) (show (ah [a]).n-([]:List dh).length<=6 by omega)
   simp only[kC];omega
 refine jD.intro fn.yh (by rfl) (by rfl) (au (by rfl)) λE hE=>(AW.sg hE rfl (iG rfl rfl λb1=>(nI rfl (nI rfl (OL.nil (AW.sg hE rfl (nI rfl ?_)))))))
 refine OL.nil (AW.seq (AW.own 4 36 T.ints 1 rfl rfl (AW.rg hE rfl (nI rfl (nI rfl (OL.nil (AW.seq ?_)))))));refine AW.seq (AW.own 5 40 T.bF 1 rfl rfl (AW.own 6 44 T.bF 1 rfl rfl (AW.rg hE rfl (aV fd.jf rfl rfl (aA ce.int rfl rfl rfl (fE rfl rfl (c:=false) (by exact decide_eq_false (by omega)) (OL.nil ?_)))))))
 refine pW rfl ?_;refine AW.skip (AW.sg hE rfl (ba7 (y:=ints []) sl.tK VC.mt.vd rfl (by decide) rfl λb15=>(uf rfl (OL.nil (AW.seq (AW.block (AW.rename 15 57 rfl ?_)))))))
 refine AW.aX (α:=BK × List (List Int) × List D × Nat × Nat × Nat × Nat × Nat × Nat × Nat × Nat) [(1,_),(2,_),(3,_)] [(1,_)] (λ(y,Q,P0,d0,c0,bw,cw,bb,cb,br,cr)=>[(4,.bK 36 bw y.ks.length cw),(5,.bK 40 bb (y.ks.map (ve a)).length cb),(6,.bK 44 br (y.rs.map iM).length cr),(7,.xE 57 d0 1 P0.length Q.length c0)]) (λ(y,Q,P0,d0,c0,bw,cw,bb,cb,br,cr)=>[(36,.row bw cw T.ints 1 (y.ks.map ints)),(40,.row bb cb T.bF 1 ((y.ks.map (ve a)).map gm)),(44,.row br cr T.bF 1 ((y.rs.map iM).map gm)),(57,.row d0 (P0.length+c0) T.ints 1 (P0++Q.map ints))]) (λ(y,Q,P0,d0,c0,bw,cw,bb,cb,br,cr)=>iw (ah [a]) 16777215 Q y/\jM (ah [a]) Q y.rs<=1000) (λ(y,Q,P0,d0,c0,bw,cw,bb,cb,br,cr)=>jM (ah [a]) Q y.rs) (⟨[],[]⟩,[[]],[],b15,1,0,0,0,0,0,0) (.cons (iF rfl) (.cons (BO rfl) (.cons (BO rfl) .nil))) (.cons (jc rfl) .nil) ⟨⟨iw.start _ _,bE7⟩,.cons vR (.cons vR (.cons vR (.cons Vj .nil))),.cons rfl (.cons rfl (.cons rfl (.cons rfl .nil)))⟩ ?_
 rintro⟨y,Q,P0,d0,c0,bw,cw,bb,cb,br,cr⟩ ⟨hI,hm1⟩
 have hI:iw (ah [a]) 16777215 Q y:=hI;have hm1:jM (ah [a]) Q y.rs<=1000:=hm1;have hQl:Q.length<=jM (ah [a]) Q y.rs:=Nat.le_add_right _ _;obtain⟨hf1,hf2⟩:=hI.b.few;have hkl:(y.ks.map (ve a)).length=y.ks.length:=dL ..;have hrl:(y.rs.map iM).length=y.rs.length:=dL ..;refine AW.seq (AW.sg hE rfl (mvB rfl (lnB sl.tK rfl rfl (kS rfl rfl rfl (OL.nil (AW.cond rfl (λhQ=>?_) (λhQ=>?_)))))))
 .have hQ:0<Q.length:=by have:=mX hQ;omega
  refine AW.skip (AW.block (AW.seq (AW.rowLen 57 rfl λhcl=>?_)));rw[jd,dL] at hcl;obtain⟨c0,rfl⟩:∃ c9,c0=c9+1:=⟨c0-1,by omega⟩
  obtain⟨w,Q,rfl⟩:∃ w Q9,Q=w::Q9:=(match Q,hQ with|w::Q9,_=>⟨w,Q9,rfl⟩)
  have hw6:=hI.b.six n6 w rY;have hwi:iy a.sym w:=by
   obtain⟨V,j,_⟩:=hI.join;have:=j.EO.uN w (.inr rY)
   rwa [hk] at this
  have hfv:(ve a w)=aZ (ah [a]) w:=Ey f.ok hwi;have hfl:(ve a w).length=a.st:=JI f.ok w;have hzv:=YV f hwi hw6;rw[List.length_cons] at hQl;refine AW.rg hE rfl (mvB rfl (bm6 (n:=0) sl.tK rfl rfl (by rw[List.length_cons];omega) (i:=P0.length) rfl (U3 ce.ints (by decide) rfl rfl bq6 (d:=ints w) rfl (aG rfl (OL.nil (AW.sg hE rfl (mvB rfl ?_)))))))
  refine bm5 (l:=1) sl.tK rfl rfl (by rw[List.length_cons];omega) (o2:=P0.length+1) rfl (n2:=Q.length) rfl (asB rfl (OL.nil (AW.sg hE rfl (aQ ag.Auto rfl rfl (vs:=[_,_,_,_,_,_,_]) rfl (au rfl) (aj rfl (bP rfl vL (Iw f hwi hw6) (aG rfl ?_)))))))
  refine OL.nil (AW.sg hE rfl (jl rfl (aj rfl ?_)));refine X3 (oJ:=[.bK 44 br (y.rs.map iM).length cr,.d (gm (ve a w))]) rfl vL (fQ.G5 (YU (v:=(ve a w)) (b:=br) (c:=cr) hI.sp hI.lead (by rw[hfl,hn]) n6 hzv) (.cons bV.bK .dw)) (fF (id:=44) (blk:=.row br cr T.bF 1 ((y.rs.map iM).map gm)) rfl) ?_
  refine aG rfl (OL.nil (AW.seq (AW.sg hE rfl (aj rfl (bP rfl vL (Ur (v:=EL y.rs (ve a w)) (by rw[ak3];omega) (λj=>aF4 hI.sp n6 hzv j)) (bD rfl rfl rfl (OL.nil ?_)))))))
  refine AW.cond rfl (λhg=>?_) (λhg=>?_)
  .have hg:bW y.rs (ve a w)=false:=Pj.1 (mX hg);have hnf:=(hI.next ok (by decide) (by rw[<- hfv];exact hzv)).2 (by rw[Nq (by rw[<- hfv];exact hg)])
   rw[Nq (by rw[<- hfv];exact hg)] at hnf
   refine AW.exit ?_;exact AW.again (x:=(y,w::Q,P0,d0,c0+1,bw,cw,bb,cb,br,cr)) (y,Q,P0++[ints w],d0,c0,bw,cw,bb,cb,br,cr) (by exact hnf.2) ⟨⟨hnf.1,by have h9:jM (ah [a]) Q y.rs<jM (ah [a]) (w::Q) y.rs:=hnf.2;omega⟩,Knows.app .yI (.cons vR (.cons vR (.cons vR (.cons (by rw[jd];exact bV.refl _) .nil)))),dP.app (.cons rfl .nil) (.cons rfl (.cons rfl (.cons rfl (.cons RZ .nil))))⟩
  .have hg:bW y.rs (ve a w)=true:=Decidable.byContradiction λh9=>by have:=Pj.2 (Bool.eq_false_iff.2 h9);have:=oN hg;omega
   have hnt:=(hI.next ok (by decide) (by rw[<- hfv];exact hzv)).1 (by rw[Np (by rw[<- hfv];exact hg)])
   rw[Np (by rw[<- hfv];exact hg),<- hfv,hk] at hnt
   have hun:(y.rs++[newR y.rs (ve a w)]).map iM=y.rs.map iM++[EL y.rs (ve a w)]:=by rw[YA,RI hg]
   refine AW.skip (AW.sg hE rfl (jl rfl (aj rfl (xG (y:=ints w) sl.tK (VC.d _).vd rfl (by decide) ?_))))
   refine Am sl.tK rfl rfl rfl (by rw[dL]) (VC.d _) (λy hy=>by rw[lV hy];rfl) (by simp only[kC];omega) (by simp only[kC];omega) (.inr rfl) (ys:=(y.ks++[w]).map ints) (by rw[List.map_append];rfl) (n2:=(y.ks++[w]).length) (by rw[jd];rfl) λb36 c36=>?_
   refine jl rfl (aj rfl (xG (y:=gm (ve a w)) sl.dm (VC.d _).vd rfl (by decide) ?_))
   refine Am sl.dm rfl rfl rfl (dL ..).symm (VC.d _) (λy hy=>by rw[lV hy];rfl) (by simp only[kC];omega) (by simp only[kC];omega) (.inr rfl) (ys:=((y.ks++[w]).map (ve a)).map gm) (by rw[List.map_append,List.map_append];rfl) (n2:=((y.ks++[w]).map (ve a)).length) (by rw[List.map_append,jd];rfl) λb40 c40=>?_
   refine jl rfl (aj rfl (xG (y:=gm (EL y.rs (ve a w))) sl.dm (VC.d _).vd rfl (by decide) ?_))
   refine Am sl.dm rfl rfl rfl (dL ..).symm (VC.d _) (λy hy=>by rw[lV hy];rfl) (by simp only[kC];omega) (by simp only[kC];omega) (.inr rfl) (ys:=((y.rs++[newR y.rs (ve a w)]).map iM).map gm) (by rw[hun,List.map_append];rfl) (n2:=((y.rs++[newR y.rs (ve a w)]).map iM).length) (by rw[hun,jd];rfl) λb44 c44=>?_
   refine uf rfl (uf rfl (uf rfl (OL.nil (AW.sg hE rfl (aG rfl (OL.nil (AW.block ?_)))))));refine AW.aX (α:=Nat × List D × Nat × Nat) [(1,_),(2,_),(3,_),(4,_),(5,_),(6,_),(8,_)] [(1,_),(36,_),(40,_),(44,_)] (λ(s,U,b,c)=>[(7,.xE 57 b 1 U.length (Q++dD s w).length c),(11,.d (dI ((s:Int)+1)))]) (λ(s,U,b,c)=>[(57,.row b (U.length+c) T.ints 1 (U++(Q++dD s w).map ints))]) (λ(s,U,b,c)=>s<=a.sym) (λ(s,U,b,c)=>a.sym-s) (0,P0++[ints w],d0,c0) (.cons (iF rfl) (.cons (BO rfl) (.cons (BO rfl) (.cons (BH rfl) (.cons (BH rfl) (.cons (BH rfl) (.cons (dA rfl) .nil))))))) (.cons (jc rfl) (.cons (tJ rfl) (.cons (tJ rfl) (.cons (tJ rfl) .nil)))) ⟨Nat.zero_le _,.cons (by rw[show (P0++[ints w]).length=P0.length+1 from jd,show dD 0 w=[] from rfl,List.append_nil];exact bV.refl _) (.cons (bV.int (by omega)) .nil),.cons (by rw[show dD 0 w=[] from rfl,List.append_nil];exact RZ) .nil⟩ ?_
   rintro⟨s,U,b,c⟩ h1
   have h1:s<=a.sym:=h1;have hkn:=zo s w;refine AW.seq (AW.sg hE rfl (aj rfl (aV fd.kZ rfl rfl (aA ce.int rfl rfl rfl (Aw rfl rfl rfl (OL.nil (AW.cond rfl (λh48=>?_) (λh48=>?_))))))))
   .try simp only[fG] at h48
    refine AW.skip (AW.seq (AW.block ?_));have hsk:s<a.sym:=by omega
    have hkl2:(Q++dD (s+1) w).length=(Q++dD s w).length+1:=by rw[xA,<- List.append_assoc,jd];rfl
    have hkm:(Q++dD s w).map ints++[ints (w++[(s:Int)+1])]=(Q++dD (s+1) w).map ints:=by rw[xA,<- List.append_assoc];exact (List.map_append (f:=ints) (l₁:=Q++dD s w) (l₂:=[(w++[(s:Int)+1])])).symm
    have hqs:(Q++dD s w).length<=1010:=by rw[jd,zo];omega
    have Rq:U.length+(Q++dD s w).length=(U++(Q++dD s w).map ints).length:=by rw[show (U++(Q++dD s w).map ints).length=U.length+((Q++dD s w).map ints).length from jd,dL]
    refine AW.rg hE rfl (mvB rfl (aj rfl (aj rfl (xG (y:=dI ((s:Int)+1)) sl.ints (VC.d _).vd rfl (by decide) (bP rfl vL (aF6 (w:=w) (u:=[(s:Int)+1]) (by omega) (au rfl)) (xG (y:=ints (w++[(s:Int)+1])) sl.tK (VC.d _).vd rfl (by decide) (apB sl.tK rfl rfl rfl Rq (VC.d _) (λy hy=>by rw[lV hy];rfl) (by simp only[kC];omega) (by simp only[kC];omega) (.inr rfl) λML k57=>?_)))))))
    rw[aZ6,List.append_assoc];refine asB rfl (OL.nil ?_);refine AW.to ([(1,.ptr 1 b1 0),(2,.mt),(3,.mt),(4,.bK 36 b36 (y.ks++[w]).length c36),(5,.bK 40 b40 ((y.ks++[w]).map (ve a)).length c40),(6,.bK 44 b44 ((y.rs++[newR y.rs (ve a w)]).map iM).length c44),(8,.d (ints w)),(11,.d (dI ((s:Int)+1)))]++[(7,.xE 57 ML 1 (qP k57 U).length (Q++dD (s+1) w).length (k57 / 2))]) ([(1,.box b1 T.Auto [.d (dI 1),.d (.sl []),.d (dI a.sym),.d (dI a.st),.d (lC a.ini),.d (lC a.fin),.d (iL a.aB)]),(36,.row b36 c36 T.ints 1 ((y.ks++[w]).map ints)),(40,.row b40 c40 T.bF 1 (((y.ks++[w]).map (ve a)).map gm)),(44,.row b44 c44 T.bF 1 (((y.rs++[newR y.rs (ve a w)]).map iM).map gm))]++[(57,.row ML ((qP k57 U).length+k57 / 2) T.ints 1 (qP k57 U++(Q++dD (s+1) w).map ints))]) (Knows.app (.cons vR (.cons vR (.cons vR (.cons vR (.cons vR (.cons vR (.cons vR (.cons vR (.nil))))))))) (.cons (by rw[Ud,hkl2];exact bV.refl _) .nil)) (dP.app (.cons rfl (.cons rfl (.cons rfl (.cons rfl (.nil))))) (.cons (by rw[Ud,<- hkm];rfl) .nil)) ?_
    generalize qP k57 U=P3;generalize k57 / 2=c3;refine AW.rg hE rfl (aj rfl (aJ rfl rfl (by omega) (aG rfl (OL.nil ?_))))
    exact AW.again (x:=(s,U,b,c)) (s+1,P3,ML,c3) (by (simp only[];omega)) ⟨by omega,Knows.app .rq7 (.cons vR (.cons (bV.int (by omega)) .nil)),dP.app (.cons rfl (.cons rfl (.cons rfl (.cons rfl .nil)))) (.cons rfl .nil)⟩
   .try simp only[fG] at h48
    refine AW.exit ?_;obtain rfl:s=a.sym:=(by omega)
    exact AW.again (x:=(y,w::Q,P0,d0,c0+1,bw,cw,bb,cb,br,cr)) ((⟨y.ks++[w],y.rs++[newR y.rs (ve a w)]⟩:BK),Q++dD a.sym w,U,b,c,b36,c36,b40,c40,b44,c44) (by exact hnt.2) ⟨⟨hnt.1,by have h9:jM (ah [a]) (Q++dD a.sym w) (⟨y.ks++[w],y.rs++[newR y.rs (ve a w)]⟩:BK).rs<jM (ah [a]) (w::Q) y.rs:=hnt.2;omega⟩,Knows.app .yI .J5,dP.app (.cons rfl .nil) (.cons rfl (.cons rfl (.cons rfl (.cons rfl .nil))))⟩
 .have hQ:Q.length=0:=by have:=oN hQ;omega
  obtain rfl:Q=[]:=EQ hQ;refine AW.exit (AW.sg hE rfl (jl rfl (jl rfl (uf rfl (uf rfl (OL.nil ?_))))));exact AW.ret ⟨y,hI,⟨_,.tmp rfl (.tmp rfl .nil),_,.cons (RO.all rfl rfl (dL ..).symm rfl) (.cons (RO.all rfl rfl (dL ..).symm rfl) .nil),rfl⟩,λid blk hk=>by cases hk⟩
theorem WW {a:Au}(f:Au.Fw a):ai P F.yh [uY a] (.oM [.d (.sl ((jw (ah [a])).map ints)),.d (.sl ((xk (ah [a]) (jw (ah [a]))).map gm))]) :=
 al3 (al4 f) λy hy=>by
  have e:y.ks.map (ve a)=xk (ah [a]) y.ks:=List.map_congr_left λu hu=>Ey f.ok (by have:=hy.uN u hu;rwa [tY] at this)
  rw[e,hy.bas]
theorem WX {a:Au}(h:a.Ok)(za:a.Sz 134217728 20)(s2:a.st<=64)(ff:(qR a).Fw):ai P F.AQ [uY a] (.oM [.d (.sl ((jw (ah [a])).map ints)),.d (.sl ((xk (ah [a]) (jw (ah [a]))).map gm))]):=by
 refine ai.intro fn.AQ (by rfl) (by rfl) (au (by rfl)) λE hE=>(AW.sg hE rfl (iG rfl rfl λb1=>(nI rfl (nI rfl (OL.nil (AW.sg hE rfl (aQ ag.Auto rfl rfl (vs:=[_,_,_,_,_,_,_]) rfl (au rfl) ?_)))))))
 refine bP rfl vL (Ir (a:=a) h za s2) (bP rfl vL (WW (a:=qR a) ff) ?_);rw[(Gz a).EK];exact ex rfl rfl (ex rfl rfl (aG rfl (aG rfl (OL.nil (AW.ret (aT.r ⟨_,.tmp rfl (.tmp rfl .nil),_,.cons (.le vR) (.cons (.le vR) .nil),rfl⟩))))))
theorem aV1 {a:Au}{s:Nat}(f:Au.Fit a s)(rz:(wS a).Sz 134217728 20)(ff:(qR (wS a)).Fw):ai P F.DK [uY a] (.d (.sl ((xk (aU (ah [a])) (jw (aU (ah [a])))).map gm))):=by
 refine ai.intro fn.DK (by rfl) (by rfl) (au (by rfl)) λE hE=>(AW.sg hE rfl (iG rfl rfl λb1=>(nI rfl (OL.nil (AW.sg hE rfl (aQ ag.Auto rfl rfl (vs:=[_,_,_,_,_,_,_]) rfl (au rfl) (bP rfl vL (YP f) ?_)))))))
 refine ES rfl (ex rfl rfl (ex rfl rfl (al z.Auto rfl λb3=>(eG sz.Auto rfl rfl rfl rfl rfl (au rfl) (cells2:=[_,_,_,_,_,_,_]) rfl (aG rfl (OL.nil (AW.sg hE rfl ?_)))))));refine aQ ag.Auto rfl rfl (vs:=[_,_,_,_,_,_,_]) rfl (au rfl) (bP rfl vL (WX (a:=wS a) f.ok.rev rz f.st ff) ?_);rw[RF];refine ES rfl (ex rfl rfl (ex rfl rfl (aG rfl (aG rfl (OL.nil (AW.sg hE rfl (aj rfl ?_)))))));exact aG rfl (OL.nil (AW.ret (aT.r ⟨_,.tmp rfl .nil,.le vR⟩)))

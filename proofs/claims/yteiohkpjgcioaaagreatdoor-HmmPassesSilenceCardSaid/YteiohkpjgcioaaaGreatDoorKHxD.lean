/-
  Walks: slices.Sort of at most 12 whole numbers (printed by mk2.py; asB.py turned to it by mkhxD.py).
-/
import Derived.Test.YteiohkpjgcioaaaGreatDoorKHoA
set_option linter.unusedVariables false
set_option linter.unusedSimpArgs false
namespace Go.Proofs.YteiohkpjgcioaaaGreatDoor
open Go Go.AL
theorem aw0:VD (.ag [.d (dB false),.mt,.mt]) (dQ 0):=VD.ag NG
abbrev dNs (l:List Nat):D:=.sl (l.map λk:Nat=>dI (k:Int))
def thM (h:HM)(i:Nat)(l:List Rat)(p:Rat)(j:Nat):List Rat:=(List.range h.st).map λq=>if q<j then thP h i l p q else l.getD q 0
theorem Eo {h:HM}{i j:Nat}{l:List Rat}{p:Rat}:(thM h i l p j).length=h.st:=by simp[thM]
theorem MP {h:HM}{i j q:Nat}{l:List Rat}{p:Rat}(hq:q<h.st):(thM h i l p j).getD q 0=if q<j then thP h i l p q else l.getD q 0:=dM _ _ hq
theorem aw2 {h:HM}{i:Nat}{l:List Rat}{p:Rat}(hl:l.length=h.st):thM h i l p 0=l:=by
 refine iK (Eo.trans hl.symm) 0 λq hq=>?_;rw[Eo] at hq;rw[MP hq,if_neg (by omega)]
theorem aI6 {h:HM}{i j:Nat}{l:List Rat}{p:Rat}(hj:j<h.st):(thM h i l p j).set j (l.getD j 0+p*Hw h i j)=thM h i l p (j+1):=by
 refine iK (by rw[List.length_set,Eo,Eo]) 0 λq hq=>?_
 rw[List.length_set,Eo] at hq;rw[o5 (by rw[Eo];exact hj),MP hq,MP hq]
 by_cases e:q=j
 .subst e;rw[if_pos rfl,if_pos (by omega)];rfl
 .rw[if_neg e];by_cases c:q<j
  .rw[if_pos c,if_pos (by omega)]
  .rw[if_neg c,if_neg (by omega)]
theorem aI7 {h:HM}{i:Nat}{l:List Rat}{p:Rat}:thM h i l p h.st=(List.range h.st).map (thP h i l p):=by
 unfold thM;exact List.map_congr_left λq hq=>if_pos (List.mem_range.1 hq)
theorem JP {h:HM}{O:List Nat}{x:List Rat × Rat}{n:Nat}(hn:n<O.length):uX h (O.take (n+1)) x=thS h (O.getD n 0) (uX h (O.take n) x):=by
 rw[cu hn 0,JK]
theorem O8 {l:List Rat}{C:Nat}(hl:Small C l)(hC:1<=C/\C<=68719476736)(nl:l.length<=1048576)(h0:l≠[]):kR P F.oO [.d (o9 l),.fn F.qB []] l.length T.Rat 3 (l.map dQ):=by
 refine kR.intro fn.oO (by rfl) (by rfl) (au (by rfl)) 4 rfl λE hE=>(AW.sg hE rfl (oq rfl (OL.nil (AW.seq (AW.sg hE rfl (ah rfl (isNil sl.aQ.u rfl (λy hy=>by obtain⟨a,_,rfl⟩:=Az hy;exact Nat.succ_pos _) rfl λb hb=>?_)))))))
 refine OL.nil (AW.cond rfl (λhno=>absurd hno (λe=>h0 (by have:=hb e;simpa using this))) (λ_=>?_))
 refine AW.skip (AW.sg hE rfl (ah rfl (eH sl.aQ rfl rfl (Xd dQ 0 sl.aQ z.Rat NG rfl rfl (Nat.le_refl _) (by omega) (by omega) rfl λb12=>(uj rfl (OL.nil (AW.seq ?_)))))))
 refine AW.sg hE rfl (ah rfl (eH sl.aQ rfl rfl (ah rfl (OL.nil (AW.block ?_)))));refine AW.aK (α:=Nat) [(1,_),(4,_),(5,_),(13,_),(14,_)] [] (λi=>[(15,.d (dI i))]) (λi=>[(12,.row b12 l.length T.Rat 3 ((tX 0 (λj=>l.getD j 0) l.length i).map dQ))]) (λi=>i<=l.length) (λi=>l.length-i) 0 (.cons (EM rfl) (.cons (zi rfl) (.cons (uH rfl) (.cons (bM rfl) (.cons (bM rfl) .nil))))) .nil ⟨Nat.zero_le _,.bC,.cons (by rw[D8];rfl) .nil⟩ ?_
 intro i h1;have h1:i<=l.length:=h1;have hfl:=uS 0 (λj=>l.getD j 0) l.length i;refine AW.sg hE rfl (aN rfl rfl rfl (OL.nil (AW.seq (AW.cond rfl (λh16=>?_) (λh16=>?_)))))
 .try simp only[bY] at h16
  refine AW.skip (AW.seq (AW.block (AW.sg hE rfl (ah rfl (bg sl.aQ 0 rfl rfl (by omega) rfl rfl (iU ag.Rat rfl (vs:=[_,_,_]) rfl (au rfl) (al z.Rat rfl λb7=>?_)))))))
  refine ay rfl (dA sz.Rat rfl rfl rfl rfl rfl (au rfl) (cells2:=[_,_,_]) rfl (OL.nil (AW.rg hE rfl (fQ rfl (ah rfl (EL rfl (aG ag.Rat rfl rfl (vs:=[_,_,_]) rfl (au rfl) ?_)))))));refine aY rfl vL (qB (Nat.le_trans (hl.get hC.1 i) hC.2)) (dV sl.aQ rfl rfl (by omega) (AA sz.Rat rfl Dp rfl rfl (by rw[dF];omega) (es2:=(tX 0 (λj=>l.getD j 0) l.length (i+1)).map dQ) (by rw[<- Gm (show i<l.length by omega),List.map_set]) (OL.nil (AW.rg hE rfl (aB rfl rfl (by omega) (ah rfl (OL.nil ?_)))))))
  exact AW.again (x:=i) (i+1) (by omega) ⟨by omega,Knows.app .y9 .bC,.cons rfl .nil⟩
 .try simp only[bY] at h16
  refine AW.exit (AW.seq ?_);obtain rfl:i=l.length:=by omega
  have hfr:(List.range l.length).map (λj=>l.getD j 0)=l:=uz l 0;refine AW.rg hE rfl (fQ rfl (uj rfl (OL.nil ?_)));exact AW.ret ⟨.inr rfl,12,b12,l.length,(tX 0 (λj=>l.getD j 0) l.length l.length).map dQ,rfl,rfl,by rw[dF,uS];exact Nat.le_refl _,by rw[Gn,hfr];exact List.take_of_length_le (by rw[dF];exact Nat.le_refl _)⟩
theorem Wh {l:List Rat}{C:Nat}(hl:Small C l)(hC:1<=C/\C<=68719476736)(nl:l.length<=1048576)(h0:l≠[]):kR P F.qX [.d (o9 l)] l.length T.Rat 3 (l.map dQ):=by
 refine kR.intro fn.qX (by rfl) (by rfl) (au (by rfl)) 2 rfl λE hE=>(AW.sg hE rfl (oq rfl (OL.nil (AW.sg hE rfl (ah rfl (clR rfl .dR (O8 hl hC nl h0) rfl λb4 c4=>(uj rfl ?_)))))))
 exact OL.nil (AW.ret ⟨.inr rfl,4,b4,c4,l.map dQ,rfl,rfl,by rw[dF];exact Nat.le_refl _,List.take_of_length_le (by rw[dF];exact Nat.le_refl _)⟩)
set_option maxRecDepth 8000 in
set_option maxHeartbeats 3200000 in
theorem Wi {h:HM}{O:List Nat}{l:List Rat}{e:Rat}{B:Nat}(f:h.oh)(zT:∀ i,Small B (h.trans.getD i []))(zS:Small B h.stop)(h1:1<=B)(hB:O4 B h.st<=1048576)(hl:l.length=h.st)(hO:∀ k,k ∈ O->k<h.st)(nO:O.length<=h.st)(zl:Small B l)(ze:sz e<=B):ai P F.AY [uY h,.d (dNs O),.d (o9 l),vQ e] (.jM [.d (o9 (uX h O (l,e)).1),vQ (uX h O (l,e)).2]):=by
 have n0:=f.st0;have n1:=f.st1;have e2:=f.trans;have e3:=f.stop;have hBB:B<=O4 B h.st:=Aw (m:=0) (Nat.zero_le _);have zz:∀ n,n<=O.length->SzT 1048576 (uX h (O.take n) (l,e)):=λn hn=>by
  have q:=av7 (O:=O.take n) zT zS h1 (x:=(l,e)) ⟨λj=>zl.get h1 j,ze⟩;have q2:(O.take n).length<=h.st:=by rw[List.length_take];omega
  have q3:=Nat.le_trans (Aw (B:=B) q2) hB;exact⟨λj=>Nat.le_trans (q.a j) q3,Nat.le_trans q.b q3⟩
 refine ai.intro fn.AY (by rfl) (by rfl) (au (by rfl)) λE hE=>(AW.sg hE rfl (iC rfl rfl λb4=>(iC rfl rfl λb7=>(oq rfl (al z.Rat rfl λb9=>(OL.nil (AW.seq ?_)))))))
 refine AW.dg 36 [0,2,1,3,4,5] aj hE rfl (by kernel_rfl) (OI.aP (os:=[_,_,_,_,_,_]) rfl ?_)
 refine ah rfl (aG ag.Rat rfl rfl (vs:=[_,_,_]) rfl (au rfl) (bh3 rfl .bC (Wh (l:=l) zl ⟨h1,by omega⟩ (by omega) (λc=>by rw[c] at hl;simp at hl;omega)) rfl rfl λb16 c16=>(aY rfl vL (qB (q:=e) (by omega)) (uj rfl (dA sz.Rat rfl rfl rfl rfl rfl (au rfl) (cells2:=[_,_,_]) rfl (OL.nil (AW.seq ?_)))))))
 refine AW.sg hE rfl (ah rfl (eH (f:=λk:Nat=>dI (k:Int)) sl.ints rfl rfl (ah rfl (OL.nil (AW.block ?_)))));refine AW.aK (α:=Nat) [(2,_),(4,_),(7,_),(8,_),(9,_),(19,_),(20,_)] [(4,_),(9,_)] (λn=>[(21,.d (dI n))]) (λn=>[(7,.box b7 T.Rat (yI (uX h (O.take n) (l,e)).2)),(16,.row b16 c16 T.Rat 3 ((uX h (O.take n) (l,e)).1.map dQ))]) (λn=>n<=O.length) (λn=>O.length-n) 0 (.cons (uH rfl) (.cons (fG rfl) (.cons (fG rfl) (.cons (zi rfl) (.cons (fG rfl) (.cons (bM rfl) (.cons (bM rfl) .nil))))))) (.cons (iJ rfl) (.cons (iJ rfl) .nil)) ⟨Nat.zero_le _,.bC,.cons (by rw[List.take_zero];rfl) (.cons (by rw[List.take_zero];rfl) .nil)⟩ ?_
 intro n h2;have h2:n<=O.length:=h2;have hxl:(uX h (O.take n) (l,e)).1.length=h.st:=sK hl;have zn:=zz n h2;refine AW.sg hE rfl (aN rfl rfl rfl (OL.nil (AW.seq (AW.cond rfl (λh22=>?_) (λh22=>?_)))))
 .try simp only[bY] at h22
  refine AW.skip (AW.seq (AW.block (AW.seq ?_)));have hn:n<O.length:=by omega
  have hi:=hO (O.getD n 0) (getD_mem hn 0);have zp:=zn.a (O.getD n 0);refine AW.rg hE rfl (bg (f:=λk:Nat=>dI (k:Int)) sl.ints 0 rfl rfl hn rfl rfl (bP ce.int rfl (ay rfl (OL.nil (AW.sg hE rfl (fQ rfl (ah rfl ?_)))))));refine dV sl.aQ rfl rfl (by omega) (UE ag.Rat 0 (by decide) rfl rfl (by omega) (vs:=[_,_,_]) rfl (au rfl) (al z.Rat rfl λb12=>(dA sz.Rat rfl rfl rfl rfl rfl (au rfl) (cells2:=[_,_,_]) rfl (OL.nil (AW.seq (AW.sg hE rfl (aG ag.Rat rfl rfl (vs:=[_,_,_]) rfl (au rfl) ?_)))))))
  refine aY rfl vL (lZ (x:=((uX h (O.take n) (l,e)).1.getD (O.getD n 0) 0)) (by omega)) (dm rfl rfl rfl (OL.nil (AW.cond rfl (λhp=>?_) (λhp=>?_))))
  .have hp:((uX h (O.take n) (l,e)).1.getD (O.getD n 0) 0)=0:=I7.1 (jC hp);refine AW.exit (AW.rg hE rfl (aB rfl rfl (by omega) (ah rfl (OL.nil ?_))))
   exact AW.again (x:=n) (n+1) (by omega) ⟨by omega,Knows.app .Nw .bC,bn.app (.cons rfl (.cons rfl .nil)) (.cons (by rw[JP hn,V5 hxl hp];rfl) (.cons (by rw[JP hn,V5 hxl hp];rfl) .nil))⟩
  .skip
   refine AW.skip (AW.sg hE rfl (fQ rfl (ah rfl (bd z.Rat pl.Rat (cs:=[_,_,_]) rfl (dV sl.aQ rfl rfl (by omega) (AA sz.Rat rfl (d:=dQ 0) aw0 rfl rfl (by rw[dF];omega) (es2:=((uX h (O.take n) (l,e)).1.set (O.getD n 0) 0).map dQ) (by rw[List.map_set]) (OL.nil ?_)))))))
   refine AW.seq (AW.seq ?_);have hti:=f.x9 (O.getD n 0) hi;have hbl:((uX h (O.take n) (l,e)).1.set (O.getD n 0) 0).length=h.st:=by rw[List.length_set];exact hxl
   refine AW.rg hE rfl (aF fd.fD rfl rfl (ak ce.aW rfl rfl rfl (ah rfl (bg sl.aW [] rfl rfl (by omega) rfl rfl (bP ce.aQ rfl (eH sl.aQ rfl rfl (ah rfl ?_)))))))
   refine OL.nil (AW.block ?_);refine AW.aK (α:=Nat) [(2,_),(4,_),(7,_),(8,_),(9,_),(11,_),(12,_),(19,_),(20,_),(21,_),(40,_),(41,_)] [(4,_),(7,_),(9,_),(12,_)] (λj=>[(42,.d (dI j))]) (λj=>[(16,.row b16 c16 T.Rat 3 ((thM h (O.getD n 0) ((uX h (O.take n) (l,e)).1.set (O.getD n 0) 0) ((uX h (O.take n) (l,e)).1.getD (O.getD n 0) 0) j).map dQ))]) (λj=>j<=h.st) (λj=>h.st-j) 0 (.cons (uH rfl) (.cons (fG rfl) (.cons (fG rfl) (.cons (zi rfl) (.cons (fG rfl) (.cons (bM rfl) (.cons (fG rfl) (.cons (bM rfl) (.cons (bM rfl) (.cons (bM rfl) (.cons (bM rfl) (.cons (bM rfl) .nil)))))))))))) (.cons (iJ rfl) (.cons (iJ rfl) (.cons (iJ rfl) (.cons (iJ rfl) .nil)))) ⟨Nat.zero_le _,.bC,.cons (by rw[aw2 hbl];rfl) .nil⟩ ?_
   intro j h3;have h3:j<=h.st:=h3;have hml:=Eo (h:=h) (i:=(O.getD n 0)) (j:=j) (l:=((uX h (O.take n) (l,e)).1.set (O.getD n 0) 0)) (p:=((uX h (O.take n) (l,e)).1.getD (O.getD n 0) 0));refine AW.sg hE rfl (aN rfl rfl rfl (OL.nil (AW.seq (AW.cond rfl (λh43=>?_) (λh43=>?_)))))
   .try simp only[bY] at h43
    refine AW.skip (AW.seq (AW.block (AW.seq ?_)));have hj:j<h.st:=by omega
    have zt:=(zT (O.getD n 0)).get h1 j;have zb:sz (((uX h (O.take n) (l,e)).1.set (O.getD n 0) 0).getD j 0)<=1048577:=by rw[O3];split;(rw[gJ];decide);exact Nat.le_trans (zn.a j) (by decide)
    have zm:=jZ ((uX h (O.take n) (l,e)).1.getD (O.getD n 0) 0) (Hw h (O.getD n 0) j);have zt2:sz (Hw h (O.getD n 0) j)<=B:=zt;have hg:(thM h (O.getD n 0) ((uX h (O.take n) (l,e)).1.set (O.getD n 0) 0) ((uX h (O.take n) (l,e)).1.getD (O.getD n 0) 0) j).getD j 0=((uX h (O.take n) (l,e)).1.set (O.getD n 0) 0).getD j 0:=by rw[MP hj,if_neg (by omega)]
    refine AW.rg hE rfl (ah rfl (bg sl.aQ 0 rfl rfl (by omega) rfl rfl (iU ag.Rat rfl (vs:=[_,_,_]) rfl (au rfl) (al z.Rat rfl λb14=>(ay rfl (dA sz.Rat rfl rfl rfl rfl rfl (au rfl) (cells2:=[_,_,_]) rfl (OL.nil ?_)))))))
    refine AW.dg 1 [0,1,2,3,4,5,6,7,8,9,10,11] aj hE rfl (by kernel_rfl) (OI.aP (os:=[_,_,_,_,_,_,_,_,_,_,_,_]) rfl ?_)
    refine fQ rfl (ah rfl (fQ rfl (ah rfl (dV sl.aQ rfl rfl (by omega) (UE ag.Rat 0 (by decide) rfl rfl (by omega) (vs:=[_,_,_]) rfl (au rfl) ?_)))))
    rw[hg];refine aG ag.Rat rfl rfl (vs:=[_,_,_]) rfl (au rfl) (aG ag.Rat rfl rfl (vs:=[_,_,_]) rfl (au rfl) (aY rfl vL (xQ (x:=((uX h (O.take n) (l,e)).1.getD (O.getD n 0) 0)) (y:=Hw h (O.getD n 0) j) (by omega) (by omega)) (aY rfl vL (xP (x:=((uX h (O.take n) (l,e)).1.set (O.getD n 0) 0).getD j 0) (y:=((uX h (O.take n) (l,e)).1.getD (O.getD n 0) 0)*Hw h (O.getD n 0) j) (by omega) (by omega)) (dV sl.aQ rfl rfl (by omega) ?_))))
    refine AA sz.Rat rfl Dp rfl rfl (by rw[dF];omega) (es2:=(thM h (O.getD n 0) ((uX h (O.take n) (l,e)).1.set (O.getD n 0) 0) ((uX h (O.take n) (l,e)).1.getD (O.getD n 0) 0) (j+1)).map dQ) (by rw[<- aI6 hj,List.map_set]) (OL.nil (AW.rg hE rfl (aB rfl rfl (by omega) (ah rfl (OL.nil ?_)))))
    exact AW.again (x:=j) (j+1) (by omega) ⟨by omega,Knows.app .aB4 .bC,bn.app (.cons rfl (.cons rfl (.cons rfl (.cons rfl .nil)))) (.cons rfl .nil)⟩
   .try simp only[bY] at h43
    refine AW.exit ?_;obtain rfl:j=h.st:=by omega
    have zs:=zS.get h1 (O.getD n 0);have ze2:=zn.b;have zm:=jZ ((uX h (O.take n) (l,e)).1.getD (O.getD n 0) 0) (h.stop.getD (O.getD n 0) 0);rw[aI7];refine AW.dg 1 [0,1,2,3,4,5,6,7,8,9] aj hE rfl (by kernel_rfl) (OI.aP (os:=[_,_,_,_,_,_,_,_,_,_]) rfl ?_)
    refine aG ag.Rat rfl rfl (vs:=[_,_,_]) rfl (au rfl) (aG ag.Rat rfl rfl (vs:=[_,_,_]) rfl (au rfl) (aF fd.jf rfl rfl (ak ce.aQ rfl rfl rfl (ah rfl (bg sl.aQ 0 rfl rfl (by omega) rfl rfl (iU ag.Rat rfl (vs:=[_,_,_]) rfl (au rfl) (aY rfl vL (xQ (x:=((uX h (O.take n) (l,e)).1.getD (O.getD n 0) 0)) (y:=h.stop.getD (O.getD n 0) 0) (by omega) (by omega)) ?_)))))))
    refine aY rfl vL (xP (x:=(uX h (O.take n) (l,e)).2) (y:=((uX h (O.take n) (l,e)).1.getD (O.getD n 0) 0)*h.stop.getD (O.getD n 0) 0) (by omega) (by omega)) (dA sz.Rat rfl rfl rfl rfl rfl (au rfl) (cells2:=[_,_,_]) rfl (OL.nil (AW.rg hE rfl (aB rfl rfl (by omega) (ah rfl (OL.nil ?_))))))
    exact AW.again (x:=n) (n+1) (by omega) ⟨by omega,Knows.app .Nw .bC,bn.app (.cons rfl (.cons rfl .nil)) (.cons (by rw[JP hn];rfl) (.cons (by rw[JP hn];rfl) .nil))⟩
 .try simp only[bY] at h22
  refine AW.exit (AW.seq ?_);obtain rfl:n=O.length:=by omega
  rw[List.take_length] at hxl;refine AW.freeze 16 rfl (AW.to [(2,.d (o9 (uX h O (l,e)).1)),(7,.ptr 7 b7 0),(9,.ptr 9 b9 0)] [(7,.box b7 T.Rat (yI (uX h O (l,e)).2)),(9,.box b9 T.Rat [.d (dB false),.mt,.mt])] (.cons (dP (by rw[dF,List.take_length,hxl];exact hl) (by rw[List.take_length])) .dR) (.cons (by rw[List.take_length];rfl) (.cons rfl .nil)) ?_)
  refine AW.Lr aj (by rw[hE];rfl) (OT.node [0,1] (os:=[_,_]) (by kernel_rfl) (by decide) rfl ⟨?_,?_,trivial⟩)
  .refine ah rfl (OL.nil (OT.node [1,2] (os:=[_,_]) (by kernel_rfl) (by decide) rfl ⟨?_,?_,trivial⟩))
   .refine aG ag.Rat rfl rfl (vs:=[_,_,_]) rfl (au rfl) (OL.nil (OT.node [2] (os:=[_]) (by kernel_rfl) (by decide) rfl ⟨?_,trivial⟩))
    refine ay rfl (OL.nil (OT.node [3] (os:=[_]) (by kernel_rfl) (by decide) rfl ⟨?_,trivial⟩))
    exact dA sz.Rat rfl rfl rfl rfl rfl (au rfl) (cells2:=[_,_,_]) rfl (OL.nil (OT.leaf (by kernel_rfl) (AW.ret (aH.r ⟨_,.tmp rfl (.dD rfl rfl ag.Rat (au rfl) .nil),_,.cons (.le vR) (.cons (.ag (.cons (.le vR) (.cons (.le vR) (.cons (.le vR) .nil)))) .nil),rfl⟩))))
   .refine ay rfl (OL.nil (OT.node [1] (os:=[_]) (by kernel_rfl) (by decide) rfl ⟨?_,trivial⟩))
    refine aG ag.Rat rfl rfl (vs:=[_,_,_]) rfl (au rfl) (OL.nil (OT.node [3] (os:=[_]) (by kernel_rfl) (by decide) rfl ⟨?_,trivial⟩))
    exact dA sz.Rat rfl rfl rfl rfl rfl (au rfl) (cells2:=[_,_,_]) rfl (OL.nil (OT.leaf (by kernel_rfl) (AW.ret (aH.r ⟨_,.tmp rfl (.dD rfl rfl ag.Rat (au rfl) .nil),_,.cons (.le vR) (.cons (.ag (.cons (.le vR) (.cons (.le vR) (.cons (.le vR) .nil)))) .nil),rfl⟩))))
  .refine aG ag.Rat rfl rfl (vs:=[_,_,_]) rfl (au rfl) (OL.nil (OT.node [0] (os:=[_]) (by kernel_rfl) (by decide) rfl ⟨?_,trivial⟩))
   refine ah rfl (OL.nil (OT.node [2] (os:=[_]) (by kernel_rfl) (by decide) rfl ⟨?_,trivial⟩))
   refine ay rfl (OL.nil (OT.node [3] (os:=[_]) (by kernel_rfl) (by decide) rfl ⟨?_,trivial⟩))
   exact dA sz.Rat rfl rfl rfl rfl rfl (au rfl) (cells2:=[_,_,_]) rfl (OL.nil (OT.leaf (by kernel_rfl) (AW.ret (aH.r ⟨_,.tmp rfl (.dD rfl rfl ag.Rat (au rfl) .nil),_,.cons (.le vR) (.cons (.ag (.cons (.le vR) (.cons (.le vR) (.cons (.le vR) .nil)))) .nil),rfl⟩))))
end Go.Proofs.YteiohkpjgcioaaaGreatDoor
namespace Go.AL
open Go Go.BigFrame
def ED (o:List Nat)(j:Nat):List Nat:=(o.set (j+1) (o.getD j 0)).set j (o.getD (j+1) 0)
def FQ (c:Nat->Nat->Bool):Nat->List Nat->List Nat
 | 0,o=>o
 | j+1,o=>if c (o.getD (j+1) 0) (o.getD j 0) then FQ c j (ED o j) else o
def sQ (c:Nat->Nat->Bool):Nat->List Nat->List Nat
 | 0,o=>o
 | k+1,o=>FQ c (k+1) (sQ c k o)
theorem GV (o:List Nat)(j:Nat):(ED o j).length=o.length:=by simp[ED]
theorem QY (c:Nat->Nat->Bool):∀ (j:Nat) (o:List Nat),(FQ c j o).length=o.length
 | 0,o=>rfl
 | j+1,o=>by
  rw[FQ]
  split
  .rw[QY c j,GV]
  .rfl
theorem xA (c:Nat->Nat->Bool):∀ (k:Nat) (o:List Nat),(sQ c k o).length=o.length
 | 0,o=>rfl
 | k+1,o=>by rw[sQ,QY,xA c k]
theorem Wj {o:List Nat}{i j x:Nat}(h:i<o.length):(o.set i x).getD j 0=if i=j then x else o.getD j 0:=by
 by_cases e:i=j
 .subst e;rw[if_pos rfl,Ho h]
 .rw[if_neg e,Go.AL.getD_set_ne e]
theorem ag2 {o:List Nat}{j:Nat}(h:j+1<o.length)(i:Nat):(ED o j).getD i 0=if i=j then o.getD (j+1) 0 else if i=j+1 then o.getD j 0 else o.getD i 0:=by
 unfold ED;rw[Wj (by rw[List.length_set];omega),Wj h]
 by_cases e1:i=j
 .rw[if_pos e1.symm,if_pos e1]
 .rw[if_neg (λe=>e1 e.symm),if_neg e1];by_cases e2:i=j+1
  .rw[if_pos e2.symm,if_pos e2]
  .rw[if_neg (λe=>e2 e.symm),if_neg e2]
theorem O9:∀ {o:List Nat} {j:Nat},j+1<o.length->(ED o j).Perm o
 | [],j,h=>by simp at h
 | [a],j,h=>by simp at h
 | a::b::r,0,h=>by
  show (b::a::r).Perm _
  exact List.Perm.swap ..
 | a::b::r,j+1,h=>by
  have e:ED (a::b::r) (j+1)=a::ED (b::r) j:=by simp[ED]
  rw[e];exact List.Perm.cons a (O9 (by simpa using h))
theorem Pg (c:Nat->Nat->Bool):∀ {j:Nat} {o:List Nat},j<o.length->(FQ c j o).Perm o
 | 0,o,_=>.refl _
 | j+1,o,h=>by
  rw[FQ]
  split
  .exact (Pg c (by rw[GV];omega)).trans (O9 h)
  .exact .refl _
theorem Ph (c:Nat->Nat->Bool):∀ {k:Nat} {o:List Nat},k<o.length->(sQ c k o).Perm o
 | 0,o,_=>.refl _
 | k+1,o,h=>by
  rw[sQ];exact (Pg c (by rw[xA];exact h)).trans (Ph c (by omega))
def Asc (c:Nat->Nat->Bool)(o:List Nat)(k:Nat):Prop:=∀ i,i<k->c (o.getD (i+1) 0) (o.getD i 0)=false
theorem QZ {c:Nat->Nat->Bool}(ha:∀ x y,c x y=true->c y x=false){k:Nat}:∀ {j:Nat} {o:List Nat},j<=k->k<o.length->(∀ i,i<k->i+1≠j->c (o.getD (i+1) 0) (o.getD i 0)=false)->(∀ i,i+1=j->j+1<=k->c (o.getD (j+1) 0) (o.getD i 0)=false)->Asc c (FQ c j o) k
 | 0,o,_,_,h1,_=>λi hi=>h1 i hi (by omega)
 | j + 1, o, hj, hk, h1, h2 => by
  rw[FQ]
  split
  .rename_i hc;have hg:=ag2 (o:=o) (j:=j) (by omega)
   refine QZ ha (by omega) (by rw[GV];exact hk) (λi hi hne=>?_) (λi hi hk2=>?_)
   .rw[hg,hg];by_cases e1:i=j
    .subst e1;rw[if_neg (by omega),if_pos rfl,if_pos rfl]
     exact ha _ _ hc
    .by_cases e2:i=j+1
     .subst e2;rw[if_neg (by omega),if_neg (by omega),if_neg (by omega),if_pos rfl]
      exact h2 j rfl hi
     .rw[if_neg (by omega),if_neg (by omega),if_neg e1,if_neg e2]
      exact h1 i hi (by omega)
   .rw[hg,hg,if_neg (by omega),if_pos rfl,if_neg (by omega),if_neg (by omega),<- hi]
    exact h1 i (by omega) (by omega)
  .rename_i hc;intro i hi;by_cases e:i=j
   .subst e;exact Bool.not_eq_true _ ▸ hc
   .exact h1 i hi (by omega)
theorem Q5 {c:Nat->Nat->Bool}(ha:∀ x y,c x y=true->c y x=false):∀ {k:Nat} {o:List Nat},k<o.length->Asc c (sQ c k o) k
 | 0,o,_=>λi hi=>by omega
 | k+1,o,h=>by
  rw[sQ];have h1:=Q5 ha (k:=k) (o:=o) (by omega)
  exact QZ ha (Nat.le_refl _) (by rw[xA];exact h) (λi hi hne=>h1 i (by omega)) (λi hi hk=>by omega)
end Go.AL
namespace Go.Proofs.YteiohkpjgcioaaaGreatDoor
open Go Go.AL
abbrev dN (k:Nat):D:=dI (k:Int)
def Hr (x y:Nat):Bool:=decide ((x:Int)<(y:Int))
theorem Pj {n:Int}:ai P F.cmp_isNaN_int [.d (dI n)] (.d (dB false)):=by
 refine ai.intro fn.cmp_isNaN_int (by rfl) (by rfl) (au (by rfl)) λE hE=>(AW.sg hE rfl (ay rfl (OL.nil (AW.sg hE rfl (ah rfl (ah rfl (bU rfl rfl rfl ?_)))))))
 exact ay rfl (OL.nil (AW.ret (aH.r ⟨_,.tmp rfl .nil,.le (aZ.bool (by simp))⟩)))
theorem Q7 {n:Int}:ai P F.rZ [.d (dI n)] (.d (dB false)):=by
 refine ai.intro fn.rZ (by rfl) (by rfl) (au (by rfl)) λE hE=>(AW.sg hE rfl (ay rfl (OL.nil (AW.sg hE rfl (ah rfl (ah rfl (bU rfl rfl rfl ?_)))))))
 exact ay rfl (OL.nil (AW.ret (aH.r ⟨_,.tmp rfl .nil,.le (aZ.bool (by simp))⟩)))
theorem aN0 {x y:Nat}:ai P F.cmp_Less_int [.d (dN x),.d (dN y)] (.d (dB (Hr x y))):=by
 refine ai.intro fn.cmp_Less_int (by rfl) (by rfl) (au (by rfl)) λE hE=>(AW.sg hE rfl (ay rfl (OL.nil (AW.sg hE rfl (ah rfl (aY rfl vL (Pj) (ah rfl ?_)))))))
 refine OL.split 7 rfl (λg7=>?_) (λg7=>?_)
 .try simp only[bY] at g7
  refine OL.yes rfl (ah rfl (OL.yes rfl (aY rfl vL (Pj) (OL.yes rfl (nt rfl (iV rfl rfl (ah rfl ?_)))))));refine OL.split 12 rfl (λg12=>?_) (λg12=>?_)
  .try simp only[bY] at g12
   exact OL.nd rfl (OL.nd rfl (OL.nd rfl (iV rfl rfl (ay rfl (OL.nil (AW.ret (aH.r ⟨_,.tmp rfl .nil,.le (aZ.bool (by simp_all))⟩)))))))
  .try simp only[bY] at g12
   refine OL.yes rfl (ah rfl (OL.yes rfl (ah rfl (OL.yes rfl (aN rfl rfl rfl (eG rfl rfl (ay rfl ?_)))))));exact OL.nil (AW.ret (aH.r ⟨_,.tmp rfl .nil,.le vR⟩))
 .try simp only[bY] at g7
  refine OL.nd rfl (OL.nd rfl (OL.nd rfl (eG rfl rfl (ah rfl (OL.yes rfl (ah rfl (OL.yes rfl ?_)))))));exact ah rfl (OL.yes rfl (aN rfl rfl rfl (eG rfl rfl (ay rfl (OL.nil (AW.ret (aH.r ⟨_,.tmp rfl .nil,.le vR⟩)))))))
theorem aI8 {o:List Nat}{n b c9:Nat}(hl:o.length=n)(hn:1<=n/\n<=12):fV P F.iD [.bJ 1000 b n c9,.d (dI 0),.d (dI n)] (mem1 1000 (.row b c9 T.int 1 ((o).map dN))) (.jM []) (mem1 1000 (.row b c9 T.int 1 ((sQ Hr (n-1) o).map dN))):=by
 refine fV.intro fn.iD (by rfl) (by rfl) (au (by rfl)) λE hE=>(AW.sg hE rfl (ah rfl (aB rfl rfl (by omega) (ay rfl (OL.nil (AW.block ?_))))))
 refine AW.aK (α:=Nat) [(0,_),(1,_),(2,_)] [] (λi=>[(6,.d (dI i))]) (λi=>[(1000,.row b c9 T.int 1 ((sQ Hr (i-1) o).map dN))]) (λi=>1<=i/\i<=n) (λi=>n-i) 1 (.cons (uH rfl) (.cons (bM rfl) (.cons (bM rfl) .nil))) .nil ⟨⟨Nat.le_refl _,hn.1⟩,.bC,.cons rfl .nil⟩ ?_
 rintro i ⟨h1,h2⟩
 have h1:1<=i:=h1;have h2:i<=n:=h2;refine AW.seq (AW.sg hE rfl (ah rfl (ah rfl (aN rfl rfl rfl (OL.nil (AW.cond rfl (λh12=>?_) (λh12=>?_)))))))
 .try simp only[bY] at h12
  refine AW.skip (AW.AP (α:=Unit) [(0,_),(1,_),(2,_),(6,_)] [] (λ_u=>[]) (λ_u=>[(1000,.row b c9 T.int 1 ((sQ Hr i o).map dN))]) (λ_u=>True) (.cons (uH rfl) (.cons (bM rfl) (.cons (bM rfl) (.cons (bM rfl) .nil)))) .nil ?_ ?_)
  .refine AW.block (AW.sg hE rfl (ah rfl (ay rfl (OL.nil (AW.block ?_)))));refine AW.aK (α:=Nat × List Nat) [(0,_),(1,_),(2,_),(6,_)] [] (λ(j,u)=>[(7,.d (dI j))]) (λ(j,u)=>[(1000,.row b c9 T.int 1 ((u).map dN))]) (λ(j,u)=>j<=i/\u.length=n/\FQ Hr j u=sQ Hr i o) (λ(j,u)=>j) (i,sQ Hr (i-1) o) (.cons (uH rfl) (.cons (bM rfl) (.cons (bM rfl) (.cons (bM rfl) .nil)))) .nil ⟨⟨Nat.le_refl _,by rw[xA];exact hl,by obtain⟨q,rfl⟩:∃ q,i=q+1:=⟨i-1,by omega⟩;rfl⟩,.bC,.cons rfl .nil⟩ ?_
   rintro⟨j,u⟩ ⟨h3,IE,hs⟩
   have h3:j<=i:=h3;have IE:u.length=n:=IE;refine AW.seq (AW.seq (AW.dg 1 [0,1,2,3,4,5,6,7,8,9,10,11,12,13,14] aj hE rfl (by kernel_rfl) (OI.aP (os:=[_,_,_,_,_,_,_,_,_,_,_,_,_,_,_]) rfl ?_)))
   refine ah rfl (ah rfl (iI rfl rfl rfl (ah rfl (OL.split 19 rfl (λhj=>?_) (λhj=>?_)))))
   .have hj:(0:Int)<(j:Int):=jC hj;obtain⟨j,rfl⟩:∃ q,j=q+1:=⟨j-1,by omega⟩
    refine OL.yes rfl (fQ rfl (OL.yes rfl (ah rfl (OL.yes rfl (dV sl.ints rfl rfl (by omega) (OL.yes rfl (ES ce.int 0 (by decide) rfl rfl (by omega) rfl ?_)))))))
    refine OL.yes rfl (fQ rfl (OL.yes rfl (ah rfl (OL.yes rfl (bo rfl rfl (dK (c:=(j:Int)) (by omega) (wrap_i64 (by omega))) (OL.yes rfl (dV sl.ints rfl rfl (by omega) ?_)))))))
    refine OL.yes rfl (ES ce.int 0 (by decide) rfl rfl (by omega) rfl (OL.yes rfl (aY rfl vL (aN0 (x:=u.getD (j+1) 0) (y:=u.getD j 0)) (iV rfl rfl (OL.nil (AW.cond rfl (λhk=>?_) (λhk=>?_)))))))
    .have hk:Hr (u.getD (j+1) 0) (u.getD j 0)=true:=hk;refine AW.skip (AW.seq (AW.block (AW.dg 1 [0,1,2,3,4,5,6,7,8,9,10,11,12,13,14,15,16,17] aj hE rfl (by kernel_rfl) (OI.aP (os:=[_,_,_,_,_,_,_,_,_,_,_,_,_,_,_,_,_,_]) rfl ?_))))
     refine fQ rfl (ah rfl (fQ rfl (ah rfl (bo rfl rfl (dK (c:=(j:Int)) (by omega) (wrap_i64 (by omega))) (fQ rfl (ah rfl (bo rfl rfl (dK (c:=(j:Int)) (by omega) (wrap_i64 (by omega))) ?_)))))))
     refine dV sl.ints rfl rfl (by omega) (ES ce.int 0 (by decide) rfl rfl (by omega) rfl (fQ rfl (ah rfl (dV sl.ints rfl rfl (by omega) (ES ce.int 0 (by decide) rfl rfl (by omega) rfl (dV sl.ints rfl rfl (by omega) (AA sz.int rfl (VC.d _).vd rfl rfl (by rw[dF];omega) (es2:=(u.set (j+1) (u.getD j 0)).map dN) (by rw[List.map_set]) ?_)))))))
     refine dV sl.ints rfl rfl (by omega) (AA sz.int rfl (VC.d _).vd rfl rfl (by rw[dF,List.length_set];omega) (es2:=(ED u j).map dN) (by unfold ED;exact List.map_set.symm) (OL.nil (AW.rg hE rfl (ah rfl (bo rfl rfl (dK (c:=(j:Int)) (by omega) (wrap_i64 (by omega))) (ay rfl (OL.nil ?_)))))))
     exact AW.again (x:=(j+1,u)) (j,ED u j) (by (simp only[];omega)) ⟨⟨by omega,by rw[GV];exact IE,by rw[<- hs,FQ,if_pos hk]⟩,Knows.app .CZ .bC,.cons rfl .nil⟩
    .have hk:¬ Hr (u.getD (j+1) 0) (u.getD j 0)=true:=λe=>by rw[hk] at e;cases e
     exact AW.exit (AW.reach () ⟨trivial,Knows.app .CZ (.nil),.cons (by rw[<- hs,FQ,if_neg hk];rfl) .nil⟩)
   .have hj:¬ (0:Int)<(j:Int):=kK hj;refine OL.nd rfl (OL.nd rfl (OL.nd rfl (OL.nd rfl (OL.nd rfl (OL.nd rfl (OL.nd rfl (OL.nd rfl ?_)))))));refine OL.nd rfl (OL.nd rfl (eG rfl rfl (OL.nil (jD rfl ?_))));exact AW.exit (AW.reach () ⟨trivial,Knows.app .CZ (.nil),.cons (by obtain rfl:j=0:=(by omega);rw[<- hs];rfl) .nil⟩)
  rintro⟨⟩ hφ
  exact AW.rg hE rfl (ah rfl (aB rfl rfl (by omega) (ay rfl (OL.nil (AW.again (x:=i) (i+1) (by omega) ⟨⟨by omega,by omega⟩,Knows.app .wL .bC,.cons (by rw[Nat.add_sub_cancel];rfl) .nil⟩)))))
 .try simp only[bY] at h12
  refine AW.exit ?_;obtain rfl:i=n:=by omega
  exact⟨⟨_,.nil,_,.nil,rfl⟩,bH rfl⟩
theorem bm2 {o:List Nat}{n b c9:Nat}(hl:o.length=n)(hn:1<=n/\n<=12){lim:Int}:fV P F.jG [.bJ 1000 b n c9,.d (dI 0),.d (dI n),.d (dI lim)] (mem1 1000 (.row b c9 T.int 1 ((o).map dN))) (.jM []) (mem1 1000 (.row b c9 T.int 1 ((sQ Hr (n-1) o).map dN))):=by
 refine fV.intro fn.jG (by rfl) (by rfl) (au (by rfl)) λE hE=>(AW.sg hE rfl (ay rfl (OL.nil (AW.sg hE rfl (ay rfl (OL.nil (AW.block ?_)))))))
 refine AW.aK (α:=Unit) [(0,_)] [] (λ_u=>[(1,.d (dI 0)),(2,.d (dI n)),(3,.d (dI lim)),(8,.d (dB true)),(9,.d (dB true))]) (λ_u=>[(1000,.row b c9 T.int 1 ((o).map dN))]) (λ_u=>True) (λ_u=>0) () (.cons (uH rfl) .nil) .nil ⟨trivial,.y9,.cons rfl .nil⟩ ?_
 rintro⟨⟩ -
 refine AW.block (AW.sg hE rfl (ah rfl (ah rfl (fC rfl rfl (by omega) (ay rfl (OL.nil (AW.seq ?_)))))))
 refine AW.sg hE rfl (ah rfl (x8 rfl rfl (c:=true) (by exact decide_eq_true (by omega)) (OL.nil (Hl rfl ?_))))
 exact AW.sg hE rfl (fQ rfl (ah rfl (ah rfl (OL.qo (v:=.jM []) (.mk (args':=[.bJ 1000 b n c9,.d (dI 0),.d (dI n)]) rfl (.cons vR (.cons vR (.cons vR (.nil)))) (bH (id:=1000) (blk:=.row b c9 T.int 1 ((o).map dN)) rfl) gy (aI8 hl hn)) (OL.nil (AW.ret ⟨⟨_,.nil,_,.nil,rfl⟩,bH rfl⟩))))))
theorem bits_Len64 {x:Nat}(hx:x<256):ai P F.uq [.d (dU x)] (.d (dI (o8 x))):=by
 refine ai.intro fn.uq (by rfl) (by rfl) (au (by rfl)) λE hE=>(AW.sg hE rfl (ay rfl (OL.nil (AW.seq (AW.sg hE rfl (ah rfl (lG rfl rfl rfl ?_)))))))
 refine OL.nil (AW.cond rfl (λhno=>absurd hno (by simp;omega)) (λ_=>?_))
 refine AW.skip (AW.seq (AW.sg hE rfl (ah rfl (lG rfl rfl rfl (OL.nil (AW.cond rfl (λhno=>absurd hno (by simp;omega)) (λ_=>?_)))))))
 refine AW.skip (AW.seq (AW.sg hE rfl (ah rfl (lG rfl rfl rfl (OL.nil (AW.cond rfl (λhno=>absurd hno (by simp;omega)) (λ_=>?_)))))))
 refine AW.skip (AW.seq ?_);have hz:=BQ (x:=x) (k:=8) (by omega)
 refine AW.rg hE rfl (ah rfl (ah rfl (cv it.u64 it.u8 rfl (c:=(x:Int)) (wrap_u8 (by omega)) (sAt st.str rfl rfl (q:=o8 x) (tbl (by kernel_rfl) hx) (cv it.u8 it.int rfl (wrap_i64 (by omega)) (aB rfl rfl (by omega) (ay rfl ?_)))))))
 exact OL.nil (AW.ret (aH.r ⟨_,.tmp rfl .nil,.le (aZ.int (by omega))⟩))
theorem bits_Len {x:Nat}(hx:x<256):ai P F.xG [.d (dU x)] (.d (dI (o8 x))):=by
 refine ai.intro fn.xG (by rfl) (by rfl) (au (by rfl)) λE hE=>(AW.sg hE rfl (ay rfl (OL.nil (AW.seq (jD rfl ?_)))))
 exact AW.skip (AW.sg hE rfl (ah rfl (aY rfl vL (bits_Len64 hx) (ay rfl (OL.nil (AW.ret (aH.r ⟨_,.tmp rfl .nil,.le vR⟩)))))))
theorem ba9 {o:List Nat}{n b c9:Nat}(hl:o.length=n)(hn:1<=n/\n<=12):fV P F.mP [.bJ 1000 b n c9] (mem1 1000 (.row b c9 T.int 1 ((o).map dN))) (.jM []) (mem1 1000 (.row b c9 T.int 1 ((sQ Hr (n-1) o).map dN))):=by
 refine fV.intro fn.mP (by rfl) (by rfl) (au (by rfl)) λE hE=>(AW.sg hE rfl (fQ rfl (WI sl.ints rfl rfl (ay rfl (OL.nil (AW.rg hE rfl (fQ rfl ?_)))))))
 refine ah rfl (ah rfl (cv it.int it.uint rfl (c:=(n:Int)) (wrap_u64 (by omega)) (aY rfl vL (bits_Len (x:=n) (by omega)) ?_)))
 refine OL.qo (v:=.jM []) (.mk (args':=[.bJ 1000 b n c9,.d (dI 0),.d (dI n),.d (dI (o8 n))]) rfl (.cons vR (.cons vR (.cons vR (.cons vR (.nil))))) (bH (id:=1000) (blk:=.row b c9 T.int 1 ((o).map dN)) rfl) gy (bm2 (lim:=(o8 n:Int)) hl hn)) ?_;exact OL.nil (⟨⟨_,.nil,_,.nil,rfl⟩,bH rfl⟩)

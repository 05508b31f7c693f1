/-
  Walks of the models out of plain numbers some of whose states are silent (printed by mk2.py).
-/
import Derived.Test.YteiohkpjgcioaaaGreatDoorKSampleA
import Derived.Test.YteiohkpjgcioaaaGreatDoorKAlg45
import Derived.Test.YteiohkpjgcioaaaGreatDoorKMod124
set_option linter.unusedVariables false
set_option linter.unusedSimpArgs false
namespace Go.Proofs.YteiohkpjgcioaaaGreatDoor
open Go Go.AL
abbrev shL (b:Nat)(L:List Int)(a:Nat)(b2 c2:Nat)(l:List Rat):List (Nat × kL):=[(1000,qI b L a),(2000,.row b2 c2 T.Rat 3 (l.map dQ))]
def bc9 (b:Nat)(L:List Int)(a:Nat)(b2 c2:Nat)(l:List Rat):Mem:=lk none ((shL b L a b2 c2 l).map λp=>(p.1,some p.2))
theorem ay0 {l:List Rat}{st:Nat}(hl:l.length=st+1):EJ l st 0=l:=by
 refine iK (o7.trans hl.symm) 0 λq hq=>?_;rw[o7] at hq;rw[ug (by omega)]
 split
 .rename_i e;rw[e];rfl
 .rw[if_neg (by omega)]
theorem ay1 {l:List Rat}{st j:Nat}(hj:j<st):((EJ l st j).set st (IA l st j+l.getD j 0)).set j 0=EJ l st (j+1):=by
 refine iK (by rw[List.length_set,List.length_set,o7,o7]) 0 λq hq=>?_
 rw[List.length_set,List.length_set,o7] at hq;rw[o5 (by rw[List.length_set,o7];omega),o5 (by rw[o7];omega),ug (by omega),ug (by omega)]
 by_cases e1:q=j
 .rw[if_pos e1,if_neg (by omega),if_pos (by omega)]
 .rw[if_neg e1];by_cases e2:q=st
  .rw[if_pos e2,if_pos e2];rfl
  .rw[if_neg e2,if_neg e2,if_neg e2];by_cases e3:q<j
   .rw[if_pos e3,if_pos (by omega)]
   .rw[if_neg e3,if_neg (by omega)]
theorem oH {L:List Int}{n a b:Nat}(hn:1<=n/\n<=1000000)(nL:L.length<=9223372036854775807):jv P F.lC [.ptr 1000 b 0,.d (dI n)] (mem1 1000 (qI b L a)) (λx:Nat × Nat=>.bJ 2000 x.1 n x.2) (λx=>bc9 b L (WN L n a) x.1 x.2 (shares L n a)) (λ_=>True):=by
 refine jv.intro fn.lC (by rfl) (by rfl) (au (by rfl)) λE hE=>(AW.sg hE rfl (oq rfl (OL.nil (AW.sg hE rfl (oq rfl (OL.nil (AW.sg hE rfl ?_)))))))
 refine ay rfl (OL.nil (AW.seq (AW.sg hE rfl (ay rfl (OL.nil (AW.own 5 25 T.int 1 rfl rfl (AW.block ?_)))))));refine AW.aK (α:=Nat × Nat × Nat) [(0,_),(1,_),(4,_)] [] (λ(i,b25,c)=>[(5,.bJ 25 b25 i c),(6,.d (dI (bV L i a).1.sum)),(7,.d (dI i))]) (λ(i,b25,c)=>[(25,.row b25 c T.int 1 ((bV L i a).1.map dI)),(1000,qI b L (bV L i a).2)]) (λ(i,b25,c)=>i<=n) (λ(i,b25,c)=>n-i) (0,0,0) (.cons (fG rfl) (.cons (bM rfl) (.cons (zi rfl) .nil))) .nil ⟨Nat.zero_le _,.wL,.cons rfl (.cons rfl .nil)⟩ ?_
 rintro⟨i,b25,c⟩ h1
 have h1:i<=n:=h1;have hpl:=wY L i a;have hps:=NK L i a;refine AW.seq (AW.sg hE rfl (ah rfl (ah rfl (aN rfl rfl rfl (OL.nil (AW.cond rfl (λh15=>?_) (λh15=>?_)))))))
 .try simp only[bY] at h15
  refine AW.skip (AW.seq (AW.block (AW.sg hE rfl (Yz rfl (OL.qo (v:=.d (dI (jE L (bV L i a).2 4))) (.mk (args':=[.ptr 1000 b 0,.d (dI 4)]) rfl (.cons vR (.cons vR (.nil))) (bH (id:=1000) (blk:=qI b L (bV L i a).2) rfl) gy (zC (by decide) nL)) ?_)))))
  have hv:=EZ (L:=L) (a:=(bV L i a).2) (m:=4) (by decide)
  refine ay rfl (OL.nil ?_);refine AW.AP (α:=Unit) [(0,_),(1,_),(4,_),(5,_),(6,_),(7,_)] [(25,_),(1000,_)] (λ_u=>[(8,.d (dI (if jE L (bV L i a).2 4=3 then 0 else jE L (bV L i a).2 4)))]) (λ_u=>[]) (λ_u=>True) (.cons (fG rfl) (.cons (bM rfl) (.cons (zi rfl) (.cons (uH rfl) (.cons (bM rfl) (.cons (bM rfl) .nil)))))) (.cons (rH rfl) (.cons (iJ rfl) .nil)) ?_ ?_
  .refine AW.sg hE rfl (ah rfl (dm rfl rfl rfl (OL.nil (AW.cond rfl (λh21=>?_) (λh21=>?_)))))
   .try simp only[bY] at h21
    exact AW.rg hE rfl (ay rfl (OL.nil (AW.reach () ⟨trivial,Knows.app .Lj (.cons (aZ.int (by rw[if_pos h21])) .nil),bn.app (.cons rfl (.cons rfl .nil)) (.nil)⟩)))
   .try simp only[bY] at h21
    exact AW.skip (AW.reach () ⟨trivial,Knows.app .Lj (.cons (aZ.int (by rw[if_neg h21])) .nil),bn.app (.cons rfl (.cons rfl .nil)) (.nil)⟩)
  rintro⟨⟩ hφ
  have hv2:0<=(if jE L (bV L i a).2 4=3 then 0 else jE L (bV L i a).2 4)/\(if jE L (bV L i a).2 4=3 then 0 else jE L (bV L i a).2 4)<=2:=by split <;> omega
  refine AW.sg hE rfl (fQ rfl (ah rfl (tC sl.ints (VC.d _).vd rfl (by decide) (yG sl.ints rfl rfl rfl (by rw[dF,hpl]) (VC.d _) (by simp[D.cells]) (by simp;omega) (by simp;omega) (.inr rfl) (ys:=(bV L (i+1) a).1.map dI) (by simp[bV]) (n2:=i+1) (by simp) λb2 c2=>(uj rfl (OL.nil (AW.rg hE rfl ?_)))))))
  refine ah rfl (ah rfl (aB rfl rfl (by omega) (ay rfl (OL.nil (AW.rg hE rfl (ah rfl (aB rfl rfl (by omega) ?_)))))))
  refine ay rfl (OL.nil ?_);exact AW.again (x:=(i,b25,c)) (i+1,b2,c2) (by (simp only[];omega)) ⟨by omega,Knows.app .wL (.cons vR (.cons (aZ.int (by simp only[bV,List.sum_append,List.sum_cons,List.sum_nil];omega)) .bC)),.cons rfl (.cons rfl .nil)⟩
 .try simp only[bY] at h15
  refine AW.exit ?_;obtain rfl:i=n:=by omega
  refine AW.AP (α:=Unit) [(1,_),(4,_),(5,_)] [] (λ_u=>[(6,.d (dI (shS L i a)))]) (λ_u=>[(25,.row b25 c T.int 1 ((WM L i a).map dI)),(1000,qI b L (WN L i a))]) (λ_u=>True) (.cons (bM rfl) (.cons (zi rfl) (.cons (uH rfl) .nil))) .nil ?_ ?_
  .refine AW.sg hE rfl (ah rfl (dm rfl rfl rfl (OL.nil (AW.cond rfl (λh30=>?_) (λh30=>?_)))))
   .try simp only[bY] at h30
    refine AW.sg hE rfl (fQ rfl (Yz rfl (OL.qo (v:=.d (dI (jE L (bV L i a).2 100))) (.mk (args':=[.ptr 1000 b 0,.d (dI 100)]) rfl (.cons vR (.cons vR (.nil))) (bH (id:=1000) (blk:=qI b L (bV L i a).2) rfl) gy (zC (by decide) nL)) ?_)))
    have hwr:=mJ (v:=jE L (bV L i a).2 100) (m:=i) (by omega)
    refine ah rfl (aY rfl .dR (jw (by omega)) (Uj sl.ints rfl rfl (by omega) (by omega) rfl (AA sz.int rfl (VC.d _).vd rfl rfl (by rw[dF];omega) rfl (OL.nil (AW.rg hE rfl (ay rfl (OL.nil ?_)))))))
    have e1:WM L i a=(bV L i a).1.set (within (jE L (bV L i a).2 100) i).toNat 1:=if_pos h30;have e2:shS L i a=1:=if_pos h30;have e3:WN L i a=MH L (bV L i a).2:=if_pos h30;exact AW.reach () ⟨trivial,Knows.app .wL (.cons (aZ.int (by rw[e2])) .nil),.cons (by rw[e1,List.map_set];rfl) (.cons (by rw[e3];rfl) .nil)⟩
   .try simp only[bY] at h30
    refine AW.skip ?_;have e1:WM L i a=(bV L i a).1:=if_neg h30;have e2:shS L i a=(bV L i a).1.sum:=if_neg h30;have e3:WN L i a=(bV L i a).2:=if_neg h30;exact AW.reach () ⟨trivial,Knows.app .wL (.cons (aZ.int (by rw[e2])) .nil),.cons (by rw[e1];rfl) (.cons (by rw[e3];rfl) .nil)⟩
  rintro⟨⟩ hφ
  have hsum:=F5 L i a hn.1;have hsl:=Je L i a;refine AW.sg hE rfl (oq rfl (OL.nil (AW.seq (AW.sg hE rfl (ay rfl (OL.nil (AW.own 9 54 T.Rat 3 rfl rfl ?_)))))));refine AW.block ?_;refine AW.aK (α:=Nat × Nat × Nat) [(1,_),(4,_),(5,_),(6,_)] [(25,_),(1000,_)] (λ(j,Wl,c)=>[(9,.bJ 54 Wl j c),(10,.d (dI j))]) (λ(j,Wl,c)=>[(54,.row Wl c T.Rat 3 (((shares L i a).take j).map dQ))]) (λ(j,Wl,c)=>j<=i) (λ(j,Wl,c)=>i-j) (0,0,0) (.cons (bM rfl) (.cons (zi rfl) (.cons (uH rfl) (.cons (bM rfl) .nil)))) (.cons (rH rfl) (.cons (iJ rfl) .nil)) ⟨Nat.zero_le _,.dR,.cons rfl .nil⟩ ?_
  rintro⟨j,Wl,c54⟩ h2
  have h2:j<=i:=h2;have htl:=take_len (l:=shares L i a) (i:=j) (by rw[jd];exact h2)
  refine AW.seq (AW.sg hE rfl (ah rfl (ah rfl (aN rfl rfl rfl (OL.nil (AW.cond rfl (λh39=>?_) (λh39=>?_)))))))
  .try simp only[bY] at h39
   refine AW.skip (AW.seq (AW.block (AW.seq ?_)));have hg:=YP (L:=L) (a:=a) hn.1 (show j<i by omega)
   refine AW.rg hE rfl (fQ rfl (ah rfl (dV sl.ints rfl rfl (by omega) (ES ce.int 0 (by decide) rfl rfl (by omega) rfl (ah rfl (aY rfl .dR (Cj (by omega) (by omega) (by omega)) ?_))))))
   rw[<- NJ (show j<i by omega)]
   refine BN rfl (ex rfl rfl (ex rfl rfl (al z.Rat rfl λb11=>(dA sz.Rat rfl rfl rfl rfl rfl (au rfl) (cells2:=[_,_,_]) rfl (ay rfl (OL.nil (AW.rg hE rfl ?_)))))));refine fQ rfl (aG ag.Rat rfl rfl (vs:=[_,_,_]) rfl (au rfl) (tC (y:=dQ _) sl.aQ Dp rfl (by decide) ?_))
   refine yG sl.aQ rfl rfl rfl (by rw[dF,htl]) (VC.d _) (by simp[D.cells]) (by simp;omega) (by simp;omega) (.inr rfl) (ys:=((shares L i a).take (j+1)).map dQ) (by rw[cu (by rw[jd];omega) 0,List.map_append];rfl) (n2:=j+1) (by simp) λb2 c2=>?_
   refine uj rfl (OL.nil (AW.rg hE rfl (ah rfl (aB rfl rfl (by omega) (ay rfl (OL.nil ?_))))))
   exact AW.again (x:=(j,Wl,c)) (j+1,b2,c2) (by (simp only[];omega)) ⟨by omega,Knows.app .CZ .dR,bn.app (.cons rfl (.cons rfl .nil)) (.cons rfl .nil)⟩
  .try simp only[bY] at h39
   refine AW.exit (AW.seq ?_);obtain rfl:j=i:=by omega
   have htk:(shares L j a).take j=shares L j a:=List.take_of_length_le (by rw[jd];exact Nat.le_refl _)
   dsimp only
   rw[htk];exact AW.rename 54 2000 rfl (AW.rg hE rfl (fQ rfl (uj rfl (OL.nil (AW.ret ⟨(Wl,c54),trivial,⟨_,.tmp rfl .nil,.le aZ.bJ⟩,λid blk hk=>uF (l:=shL b L (WN L j a) Wl c54 (shares L j a)) (.cons rfl (.cons rfl trivial)) id blk hk⟩)))))
set_option maxRecDepth 16000 in
set_option maxHeartbeats 6400000 in
theorem ag9 {L : List Int} {cs cy most : Int} (hm : 1 <= most /\ most <= 12) (nL : L.length <= 9223372036854775807) : ai P F.rX [.ag [.d (dI cs), .d (dI cy), .d (ints L)], .d (dI most), .d (dB true)] (uY (kQ L cs cy most)) := by
 have s0:=zX (cs:=cs) hm;have y0:=yg cy;refine ai.intro fn.rX (by rfl) (by rfl) (au (by rfl)) λE hE=>(AW.sg hE rfl (iC rfl rfl λb3=>(al z.aU rfl λb6=>(OL.nil (AW.sg hE rfl (aF fd.aD4 rfl rfl (ak ce.ints rfl rfl rfl ?_)))))))
 refine bd z.Tape pl.Tape (cs:=[_,_]) rfl (iC rfl rfl λb20=>(asP rfl (OL.nil (AW.seq (AW.rename 20 1000 rfl (AW.dg 1 [0,1,2,3,4,5,6,7,8,9,10,11] aj hE rfl (by kernel_rfl) (OI.aP (os:=[_,_,_,_,_,_,_,_,_,_,_,_]) rfl ?_)))))))
 refine aF fd.aD2 rfl rfl (ak ce.int rfl rfl rfl (ah rfl (aY rfl .dR (jw (by omega)) (bo rfl rfl (dO (c:=((aJ cs most:Nat):Int)) (by omega) (wrap_i64 (by omega))) (aF fd.aD3 rfl rfl (ak ce.int rfl rfl rfl (aY rfl .dR (jw (by omega)) ?_)))))))
 refine bo rfl rfl (dO (c:=((aO cy:Nat):Int)) (by omega) (wrap_i64 (by omega))) (bd z.aU pl.aU (cs:=[_,_,_,_,_,_,_,_,_,_,_]) rfl (al z.aU rfl λb8=>(dA sz.aU rfl rfl rfl rfl rfl (au rfl) (cells2:=[_,_,_,_,_,_,_,_,_,_,_]) rfl (OL.nil (AW.sg hE rfl (Yz rfl (aF fd.bQ rfl rfl ?_)))))))
 refine ak ce.int rfl rfl rfl (bo rfl rfl (dO (c:=((aJ cs most+1:Nat):Int)) (by omega) (wrap_i64 (by omega))) ?_)
 refine OL.qo (v:=.d (o9 (ou L (aJ cs most)))) (.mk (args':=[.ptr 1000 b20 0,.d (dI (((aJ cs most)+1:Nat)))]) rfl (.cons (aZ.ptr) (.cons vR (.nil))) (bH (id:=1000) (blk:=qI b20 L 0) rfl) gy (lC ⟨by omega,by omega⟩ nL)) ?_
 have hfl:(ou L (aJ cs most)).length=(aJ cs most)+1:=jd ..;refine ay rfl (OL.nil (AW.seq (AW.dg 1 [0,1,2,3,4,5,6,7,8,9,10,11,12] aj hE rfl (by kernel_rfl) (OI.aP (os:=[_,_,_,_,_,_,_,_,_,_,_,_,_]) rfl ?_))))
 refine ah rfl (aF fd.bQ rfl rfl (ak ce.int rfl rfl rfl (bg sl.aQ 0 rfl rfl (by omega) rfl rfl (iU ag.Rat rfl (vs:=[_,_,_]) rfl (au rfl) (ah rfl (aF fd.bQ rfl rfl (ak ce.int rfl rfl rfl ?_)))))))
 refine ZY sl.aQ rfl rfl (λ_=>rfl) (by omega) (l2:=(ou L (aJ cs most)).take (aJ cs most)) (by rw[Int.toNat_natCast]) (aF fd.gZ rfl rfl (dA sz.Rat rfl rfl rfl rfl rfl (au rfl) (cells2:=[_,_,_,_,_,_,_,_,_,_,_]) rfl (aF fd.fO rfl rfl (dA sz.aQ rfl rfl rfl rfl rfl (au rfl) (cells2:=[_,_,_,_,_,_,_,_,_,_,_]) rfl (OL.nil (AW.seq (AW.sg hE rfl ?_)))))))
 refine ay rfl (OL.nil ?_);refine AW.vC 8 [.d (dI (aO cy)),.d (dI (aJ cs most)),.d (dB (eU ((ou L (aJ cs most)).getD (aJ cs most) 0)).neg),.d (aC (eU ((ou L (aJ cs most)).getD (aJ cs most) 0)).num),.d (aC (eU ((ou L (aJ cs most)).getD (aJ cs most) 0)).den),.d (o9 ((ou L (aJ cs most)).take (aJ cs most))),.bJ 95 0 0 0,.bJ 104 0 0 0,.bJ 123 0 0 0,.bJ 109 0 0 0,.bJ 164 0 0 0] rfl (.cons vR (.cons vR (.cons vR (.cons vR (.cons vR (.cons vR (.cons aZ.Ub (.cons aZ.Ub (.cons aZ.Ub (.cons aZ.Ub (.cons aZ.Ub .nil))))))))))) ?_;refine AW.row0 95 T.aQ 1 rfl (AW.row0 104 T.Rat 3 rfl (AW.row0 123 T.aQ 1 rfl (AW.row0 109 T.bool 1 rfl (AW.row0 164 T.int 1 rfl (AW.block ?_)))));refine AW.aK (α:=Nat × Nat × Nat × Nat × Nat × Nat × Nat × Nat × Nat × Nat × Nat) [(2,_),(6,_),(7,_),(8,_)] [(6,_)] (λ(i,p1,c1,p2,c2,p3,c3,p4,c4,p5,c5)=>[(10,.d (dI i))]) (λ(i,p1,c1,p2,c2,p3,c3,p4,c4,p5,c5)=>[(8,.box b8 T.aU [.d (dI (aO cy)),.d (dI (aJ cs most)),.d (dB (eU ((ou L (aJ cs most)).getD (aJ cs most) 0)).neg),.d (aC (eU ((ou L (aJ cs most)).getD (aJ cs most) 0)).num),.d (aC (eU ((ou L (aJ cs most)).getD (aJ cs most) 0)).den),.d (o9 ((ou L (aJ cs most)).take (aJ cs most))),.bJ 95 p1 i c1,.bJ 104 p2 i c2,.bJ 123 p3 i c3,.bJ 109 p4 i c4,.bJ 164 p5 i c5]),(95,.row p1 c1 T.aQ 1 ((bf L (aJ cs most) (aO cy) i).trans.map o9)),(104,.row p2 c2 T.Rat 3 ((bf L (aJ cs most) (aO cy) i).stop.map dQ)),(123,.row p3 c3 T.aQ 1 ((bf L (aJ cs most) (aO cy) i).emit.map o9)),(109,.row p4 c4 T.bool 1 ((bf L (aJ cs most) (aO cy) i).sil.map dB)),(164,.row p5 c5 T.int 1 ((bf L (aJ cs most) (aO cy) i).ties.map dI)),(1000,qI b20 L (bf L (aJ cs most) (aO cy) i).a)]) (λ(i,p1,c1,p2,c2,p3,c3,p4,c4,p5,c5)=>i<=(aJ cs most)) (λ(i,p1,c1,p2,c2,p3,c3,p4,c4,p5,c5)=>(aJ cs most)-i) (0,0,0,0,0,0,0,0,0,0,0) (.cons (bM rfl) (.cons (fG rfl) (.cons (fG rfl) (.cons (fG rfl) .nil)))) (.cons (iJ rfl) .nil) ⟨Nat.zero_le _,.bC,.cons rfl (.cons rfl (.cons rfl (.cons rfl (.cons rfl (.cons rfl (.cons rfl .nil))))))⟩ ?_
 rintro⟨i,p1,c1,p2,c2,p3,c3,p4,c4,p5,c5⟩ h1
 have h1:i<=(aJ cs most):=h1;have hok:=Yk (L:=L) (st:=(aJ cs most)) (sym:=(aO cy)) ⟨s0.1,by omega⟩ ⟨y0.1,by omega⟩ (RV ((aJ cs most)+1) (Nat.zero_le _)) i h1
 have m1:(bf L (aJ cs most) (aO cy) i).trans.length=i:=hok.lt;have m2:(bf L (aJ cs most) (aO cy) i).stop.length=i:=hok.ls;have m3:(bf L (aJ cs most) (aO cy) i).emit.length=i:=hok.le;have m4:(bf L (aJ cs most) (aO cy) i).ties.length=i:=hok.ll;have m5:(bf L (aJ cs most) (aO cy) i).sil.length=i:=hok.lq;have ml0:(Es L (aJ cs most) (bf L (aJ cs most) (aO cy) i)).length=(aJ cs most)+1:=jd ..;have mz0:Small 1 (Es L (aJ cs most) (bf L (aJ cs most) (aO cy) i)):=rQ _ _ _ (by omega) (by omega)
 have mll:(GX L (aJ cs most) i (bf L (aJ cs most) (aO cy) i)).length=(aJ cs most)+1:=by unfold GX;split;exact o7;exact ml0
 refine AW.seq (AW.sg hE rfl (ah rfl (aF fd.bQ rfl rfl (ak ce.int rfl rfl rfl (aN rfl rfl rfl (OL.nil (AW.cond rfl (λh50=>?_) (λh50=>?_))))))))
 .try simp only[bY] at h50
  refine AW.skip (AW.seq (AW.block (AW.sg hE rfl (ah rfl (ah rfl (OL.yes rfl (Yz rfl ?_)))))));refine OL.yes rfl ?_;refine OL.qo (v:=.d (dI (jE L (bf L (aJ cs most) (aO cy) i).a 3))) (.mk (args':=[.ptr 1000 b20 0,.d (dI 3)]) rfl (.cons (aZ.ptr) (.cons vR (.nil))) (bH (id:=1000) (blk:=qI b20 L (bf L (aJ cs most) (aO cy) i).a) rfl) gy (zC (by decide) nL)) ?_
  refine OL.yes rfl (dm rfl rfl rfl (iV rfl rfl (ay rfl (OL.nil (AW.seq ?_)))));have hi:i<(aJ cs most):=by omega
  refine AW.oz (by rw[hE];rfl) (SK.dG (Yz rfl (OL.nil ?_)))
  refine SK.dG (aF fd.bQ rfl rfl (OL.nil ?_));refine SK.dG (ak ce.int rfl rfl rfl (OL.nil ?_));refine SK.dG (bo rfl rfl (dO (c:=(((aJ cs most)+1:Nat):Int)) (by omega) (wrap_i64 (by omega))) (OL.nil ?_))
  refine SK.G5 (SO.aW0 (args':=[.ptr 1000 b20 0,.d (dI (((aJ cs most)+1:Nat)))]) (show 63<E.n by rw[hE];exact Nat.le_of_ble_eq_true (by rfl)) rfl (.cons aZ.ptr .bC) (Mc:=mem1 1000 (qI b20 L (MH L (bf L (aJ cs most) (aO cy) i).a))) (bH rfl) (oH ⟨by omega,by omega⟩ nL) ?_)
  rintro⟨b63,c63⟩ -
  refine SK.dG (uj rfl (OL.nil ?_));refine SK.nil ?_;refine AW.AP (α:=Unit) [(2,_),(6,_),(7,_),(8,_),(10,_),(11,_),(12,_)] [(6,_),(8,_),(95,_),(104,_),(109,_),(123,_),(164,_),(1000,_)] (λ_u=>[]) (λ_u=>[(2000,.row b63 c63 T.Rat 3 ((GX L (aJ cs most) i (bf L (aJ cs most) (aO cy) i)).map dQ))]) (λ_u=>True) (.cons (bM rfl) (.cons (fG rfl) (.cons (fG rfl) (.cons (fG rfl) (.cons (bM rfl) (.cons (bM rfl) (.cons (uH rfl) .nil))))))) (.cons (iJ rfl) (.cons (iJ rfl) (.cons (rH rfl) (.cons (rH rfl) (.cons (rH rfl) (.cons (rH rfl) (.cons (rH rfl) (.cons (iJ rfl) .nil)))))))) ?_ ?_
  .refine AW.sg hE rfl (ah rfl (OL.nil (AW.cond rfl (λhs=>?_) (λhs=>?_))))
   .have hs:(C9 L (bf L (aJ cs most) (aO cy) i))=true:=hs;refine AW.sg hE rfl (ay rfl (OL.nil (AW.block ?_)));refine AW.aK (α:=Nat) [(2,_),(6,_),(7,_),(8,_),(10,_),(11,_),(12,_)] [(6,_),(8,_),(95,_),(104,_),(109,_),(123,_),(164,_),(1000,_)] (λj=>[(13,.d (dI j))]) (λj=>[(2000,.row b63 c63 T.Rat 3 ((EJ (Es L (aJ cs most) (bf L (aJ cs most) (aO cy) i)) (aJ cs most) j).map dQ))]) (λj=>j<=i+1) (λj=>i+1-j) 0 (.cons (bM rfl) (.cons (fG rfl) (.cons (fG rfl) (.cons (fG rfl) (.cons (bM rfl) (.cons (bM rfl) (.cons (uH rfl) .nil))))))) (.cons (iJ rfl) (.cons (iJ rfl) (.cons (rH rfl) (.cons (rH rfl) (.cons (rH rfl) (.cons (rH rfl) (.cons (rH rfl) (.cons (iJ rfl) .nil)))))))) ⟨Nat.zero_le _,.bC,.cons (by rw[ay0 ml0];rfl) .nil⟩ ?_
    intro j h2;have h2:j<=i+1:=h2;have hcl:=o7 (l:=(Es L (aJ cs most) (bf L (aJ cs most) (aO cy) i))) (st:=(aJ cs most)) (j:=j);refine AW.seq (AW.sg hE rfl (ah rfl (ah rfl (x8 rfl rfl rfl (OL.nil (AW.cond rfl (λh67=>?_) (λh67=>?_)))))))
    .try simp only[bY] at h67
     refine AW.skip (AW.seq (AW.block (AW.seq ?_)));have hj:j<(aJ cs most):=by omega
     have ze:=TV (st:=(aJ cs most)) mz0 j;have zj:=mz0.get (Nat.le_refl 1) j;have g1:(EJ (Es L (aJ cs most) (bf L (aJ cs most) (aO cy) i)) (aJ cs most) j).getD (aJ cs most) 0=IA (Es L (aJ cs most) (bf L (aJ cs most) (aO cy) i)) (aJ cs most) j:=by rw[ug (Nat.le_refl _),if_pos rfl]
     have g2:(EJ (Es L (aJ cs most) (bf L (aJ cs most) (aO cy) i)) (aJ cs most) j).getD j 0=(Es L (aJ cs most) (bf L (aJ cs most) (aO cy) i)).getD j 0:=by rw[ug (by omega),if_neg (by omega),if_neg (by omega)]
     refine AW.dg 1 [0,1,2,3,4,5,6,7,8,9,10,11,12,13,14] aj hE rfl (by kernel_rfl) (OI.aP (os:=[_,_,_,_,_,_,_,_,_,_,_,_,_,_,_]) rfl ?_)
     refine fQ rfl (aF fd.bQ rfl rfl (ak ce.int rfl rfl rfl (fQ rfl (aF fd.bQ rfl rfl (ak ce.int rfl rfl rfl (dV sl.aQ rfl rfl (by omega) (UE ag.Rat 0 (by decide) rfl rfl (by omega) (vs:=[_,_,_]) rfl (au rfl) ?_)))))))
     rw[g1];refine fQ rfl (ah rfl (dV sl.aQ rfl rfl (by omega) (UE ag.Rat 0 (by decide) rfl rfl (by omega) (vs:=[_,_,_]) rfl (au rfl) ?_)))
     rw[g2];refine aY rfl vL (Cm (x:=IA (Es L (aJ cs most) (bf L (aJ cs most) (aO cy) i)) (aJ cs most) j) (y:=(Es L (aJ cs most) (bf L (aJ cs most) (aO cy) i)).getD j 0) (by omega) (by omega)) ?_
     refine dV sl.aQ rfl rfl (by omega) ?_
     refine AA sz.Rat rfl (d:=dQ (IA (Es L (aJ cs most) (bf L (aJ cs most) (aO cy) i)) (aJ cs most) j+(Es L (aJ cs most) (bf L (aJ cs most) (aO cy) i)).getD j 0)) Dp rfl rfl (by rw[dF];omega) (es2:=((EJ (Es L (aJ cs most) (bf L (aJ cs most) (aO cy) i)) (aJ cs most) j).set (aJ cs most) (IA (Es L (aJ cs most) (bf L (aJ cs most) (aO cy) i)) (aJ cs most) j+(Es L (aJ cs most) (bf L (aJ cs most) (aO cy) i)).getD j 0)).map dQ) (by rw[List.map_set]) ?_
     refine OL.nil (AW.rg hE rfl (fQ rfl (ah rfl (bd z.Rat pl.Rat (cs:=[_,_,_]) rfl (dV sl.aQ rfl rfl (by omega) ?_)))))
     refine AA sz.Rat rfl (d:=dQ 0) aw0 rfl rfl (by rw[dF,List.length_set];omega) (es2:=(EJ (Es L (aJ cs most) (bf L (aJ cs most) (aO cy) i)) (aJ cs most) (j+1)).map dQ) (by rw[<- ay1 hj,List.map_set,List.map_set,List.map_set]) ?_
     refine OL.nil (AW.rg hE rfl (ah rfl (aB rfl rfl (by omega) (ay rfl (OL.nil ?_)))))
     exact AW.again (x:=j) (j+1) (by omega) ⟨by omega,Knows.app .Nw .bC,bn.app (.cons rfl (.cons rfl (.cons rfl (.cons rfl (.cons rfl (.cons rfl (.cons rfl (.cons rfl .nil)))))))) (.cons rfl .nil)⟩
    .try simp only[bY] at h67
     refine AW.exit ?_;obtain rfl:j=i+1:=by omega
     exact AW.reach () ⟨trivial,Knows.app .Nw (.nil),bn.app (.cons rfl (.cons rfl (.cons rfl (.cons rfl (.cons rfl (.cons rfl (.cons rfl (.cons rfl .nil)))))))) (.cons (by rw[GX,if_pos hs];rfl) .nil)⟩
   .have hs:(C9 L (bf L (aJ cs most) (aO cy) i))=false:=hs;refine AW.skip ?_;exact AW.reach () ⟨trivial,Knows.app .Nw (.nil),bn.app (.cons rfl (.cons rfl (.cons rfl (.cons rfl (.cons rfl (.cons rfl (.cons rfl (.cons rfl .nil)))))))) (.cons (by rw[GX,hs];rfl) .nil)⟩
  rintro⟨⟩ hφ
  refine AW.seq ?_;refine AW.freeze 2000 rfl (AW.to [(12,.d (o9 (GX L (aJ cs most) i (bf L (aJ cs most) (aO cy) i)))),(2,_),(6,_),(7,_),(8,_),(10,_),(11,_)] [(6,_),(8,_),(95,_),(104,_),(109,_),(123,_),(164,_),(1000,_)] (.cons (dP (by rw[dF,mll]) rfl) (by repeat (first|exact Knows.nil|refine Knows.cons (by first|exact bM rfl|exact knA rfl|exact fG rfl|exact uH rfl|exact zi rfl|exact knE rfl|exact knR rfl|exact EM rfl|exact knT rfl|exact knI rfl|exact knB rfl|exact Xr) ?_))) (by repeat (first|exact bn.nil|refine bn.cons (by first|exact iJ rfl|exact rH rfl|exact owL rfl|exact owT rfl) ?_)) ?_)
  refine AW.dg 2 [0,1,2,3,4,5,6,8,9,10,11,12,13,14,15,17,18,19,20,7,22,16,21,23,24,25,26,27] aj hE rfl (by kernel_rfl) (OI.aP (os:=[_,_,_,_,_,_,_,_,_,_,_,_,_,_,_,_,_,_,_,_,_,_,_,_,_,_,_,_]) rfl ?_)
  refine aF fd.fD rfl rfl (ak ce.aW rfl rfl rfl (ah rfl (aF fd.bQ rfl rfl (ak ce.int rfl rfl rfl (ZY sl.aQ rfl rfl (λ_=>rfl) (by omega) (l2:=(GX L (aJ cs most) i (bf L (aJ cs most) (aO cy) i)).take (aJ cs most)) (by rw[Int.toNat_natCast]) (tC (y:=o9 ((GX L (aJ cs most) i (bf L (aJ cs most) (aO cy) i)).take (aJ cs most))) sl.aW (VC.d _).vd rfl (by decide) (aF fd.jf rfl rfl ?_)))))))
  refine ak ce.aQ rfl rfl rfl (ah rfl (aF fd.bQ rfl rfl (ak ce.int rfl rfl rfl (bg sl.aQ 0 rfl rfl (by omega) rfl rfl (iU ag.Rat rfl (vs:=[_,_,_]) rfl (au rfl) (tC (y:=dQ ((GX L (aJ cs most) i (bf L (aJ cs most) (aO cy) i)).getD (aJ cs most) 0)) sl.aQ Dp rfl (by decide) (aF fd.bZ rfl rfl ?_)))))))
  refine ak ce.bools rfl rfl rfl (ah rfl (tC (y:=dB (C9 L (bf L (aJ cs most) (aO cy) i))) sl.bools (VC.d _).vd rfl (by decide) ?_))
  refine yG sl.aW rfl rfl rfl (by rw[dF];omega) (VC.d _) (λy hy=>by rw[qm hy];rfl) (by simp only[nN];omega) (by simp only[nN];omega) (.inr rfl) (ys:=((bf L (aJ cs most) (aO cy) (i+1)).trans.map o9)) (by show _=List.map o9 (_++_);rw[List.map_append];rfl) (n2:=i+1) rfl λq1 d1=>?_
  refine aF fd.fD rfl rfl ?_;refine yG sl.aQ rfl rfl rfl (by rw[dF];omega) (VC.d _) (λy hy=>by rw[qm hy];rfl) (by simp only[nN];omega) (by simp only[nN];omega) (.inr rfl) (ys:=((bf L (aJ cs most) (aO cy) (i+1)).stop.map dQ)) (by show _=List.map dQ (_++_);rw[List.map_append];rfl) (n2:=i+1) rfl λq2 d2=>?_
  refine yG sl.bools rfl rfl rfl (by rw[dF];omega) (VC.d _) (λy hy=>by rw[qm hy];rfl) (by simp only[nN];omega) (by simp only[nN];omega) (.inr rfl) (ys:=((bf L (aJ cs most) (aO cy) (i+1)).sil.map dB)) (by show _=List.map dB (_++_);rw[List.map_append];rfl) (n2:=i+1) rfl λq4 d4=>?_
  refine dA sz.aW rfl rfl rfl rfl rfl (au rfl) (cells2:=[_,_,_,_,_,_,_,_,_,_,_]) rfl (aF fd.jf rfl rfl (dA sz.aQ rfl rfl rfl rfl rfl (au rfl) (cells2:=[_,_,_,_,_,_,_,_,_,_,_]) rfl (aF fd.bZ rfl rfl (dA sz.bools rfl rfl rfl rfl rfl (au rfl) (cells2:=[_,_,_,_,_,_,_,_,_,_,_]) rfl (OL.nil (AW.sg hE rfl (oq rfl ?_)))))));refine OL.nil ?_;refine AW.AP (α:=Unit) [(2,_),(6,_),(7,_),(8,_),(10,_),(11,_)] [(6,_),(8,_),(95,_),(104,_),(109,_),(123,_),(164,_)] (λ_u=>[(14,.d (o9 (Et L (aJ cs most) (aO cy) (bf L (aJ cs most) (aO cy) i))))]) (λ_u=>[(1000,qI b20 L (TU L (aJ cs most) (aO cy) (bf L (aJ cs most) (aO cy) i)))]) (λ_u=>True) (.cons (bM rfl) (.cons (fG rfl) (.cons (fG rfl) (.cons (fG rfl) (.cons (bM rfl) (.cons (bM rfl) .nil)))))) (.cons (iJ rfl) (.cons (iJ rfl) (.cons (rH rfl) (.cons (rH rfl) (.cons (rH rfl) (.cons (rH rfl) (.cons (rH rfl) .nil))))))) ?_ ?_
  .refine AW.sg hE rfl (ah rfl (nt rfl (OL.nil (AW.cond rfl (λhq=>?_) (λhq=>?_)))))
   .have hq:(C9 L (bf L (aJ cs most) (aO cy) i))=false:=by have e:(!(C9 L (bf L (aJ cs most) (aO cy) i)))=true:=hq;simpa using e
    refine AW.rg hE rfl (Yz rfl (aF fd.jL rfl rfl (ak ce.int rfl rfl rfl ?_)));refine OL.qo (v:=.d (o9 (shares L (aO cy) (ag8 L (aJ cs most) (bf L (aJ cs most) (aO cy) i))))) (.mk (args':=[.ptr 1000 b20 0,.d (dI (aO cy))]) rfl (.cons (aZ.ptr) (.cons vR (.nil))) (bH (id:=1000) (blk:=qI b20 L (ag8 L (aJ cs most) (bf L (aJ cs most) (aO cy) i))) rfl) gy (lC ⟨by omega,by omega⟩ nL)) ?_
    refine ay rfl (OL.nil ?_);exact AW.reach () ⟨trivial,Knows.app .Lj (.cons (by rw[Et,hq];exact aZ.refl _) .nil),bn.app (.cons rfl (.cons rfl (.cons rfl (.cons rfl (.cons rfl (.cons rfl (.cons rfl .nil))))))) (.cons (by rw[TU,hq];rfl) .nil)⟩
   .have hq:(C9 L (bf L (aJ cs most) (aO cy) i))=true:=by have e:(!(C9 L (bf L (aJ cs most) (aO cy) i)))=false:=hq;simpa using e
    refine AW.skip ?_;exact AW.reach () ⟨trivial,Knows.app .Lj (.cons (by rw[Et,if_pos hq];exact aZ.mt) .nil),bn.app (.cons rfl (.cons rfl (.cons rfl (.cons rfl (.cons rfl (.cons rfl (.cons rfl .nil))))))) (.cons (by rw[TU,if_pos hq];rfl) .nil)⟩
  rintro⟨⟩ hφ
  have mze:Small 1 (Et L (aJ cs most) (aO cy) (bf L (aJ cs most) (aO cy) i)):=by unfold Et;split;exact Small.nil;exact rQ _ _ _ (by omega) (by omega)
  have mle:(Et L (aJ cs most) (aO cy) (bf L (aJ cs most) (aO cy) i)).length<=(aO cy):=by unfold Et;split;exact Nat.zero_le _;rw[jd];exact Nat.le_refl _
  have m3s:(bf L (aJ cs most) (aO cy) (i+1)).emit.length=i+1:=by show ((bf L (aJ cs most) (aO cy) i).emit++[(Et L (aJ cs most) (aO cy) (bf L (aJ cs most) (aO cy) i))]).length=_;rw[jT,m3];rfl
  have m5s:(bf L (aJ cs most) (aO cy) (i+1)).sil.length=i+1:=by show ((bf L (aJ cs most) (aO cy) i).sil++[(C9 L (bf L (aJ cs most) (aO cy) i))]).length=_;rw[jT,m5];rfl
  refine AW.sg hE rfl (aF fd.dS rfl rfl (ak ce.aW rfl rfl rfl (ah rfl (tC (y:=o9 (Et L (aJ cs most) (aO cy) (bf L (aJ cs most) (aO cy) i))) sl.aW (VC.d _).vd rfl (by decide) ?_))))
  refine yG sl.aW rfl rfl rfl (by rw[dF];omega) (VC.d _) (λy hy=>by rw[qm hy];rfl) (by simp only[nN];omega) (by simp only[nN];omega) (.inr rfl) (ys:=((bf L (aJ cs most) (aO cy) (i+1)).emit.map o9)) (by show _=List.map o9 (_++_);rw[List.map_append];rfl) (n2:=i+1) rfl λq3 d3=>?_
  refine aF fd.dS rfl rfl (dA sz.aW rfl rfl rfl rfl rfl (au rfl) (cells2:=[_,_,_,_,_,_,_,_,_,_,_]) rfl (OL.nil (AW.sg hE rfl (ah rfl (ay rfl (OL.nil ?_))))));refine AW.AP (α:=Unit) [(2,_),(6,_),(7,_),(8,_),(10,_)] [(6,_),(8,_),(95,_),(104,_),(109,_),(123,_),(164,_)] (λ_u=>[(15,.d (dI (Pq L (aJ cs most) (aO cy) i (bf L (aJ cs most) (aO cy) i)).1))]) (λ_u=>[(1000,qI b20 L (Pq L (aJ cs most) (aO cy) i (bf L (aJ cs most) (aO cy) i)).2)]) (λ_u=>True) (.cons (bM rfl) (.cons (fG rfl) (.cons (fG rfl) (.cons (fG rfl) (.cons (bM rfl) .nil))))) (.cons (iJ rfl) (.cons (iJ rfl) (.cons (rH rfl) (.cons (rH rfl) (.cons (rH rfl) (.cons (rH rfl) (.cons (rH rfl) .nil))))))) ?_ ?_
  .refine AW.sg hE rfl (ay rfl (OL.nil (AW.block ?_)));refine AW.aK (α:=Nat × Nat × Int) [(2,_),(6,_),(7,_),(8,_),(10,_),(11,_),(14,_)] [(6,_),(8,_),(95,_),(104,_),(109,_),(123,_),(164,_)] (λ(j,a,t)=>[(15,.d (dI t)),(16,.d (dI j))]) (λ(j,a,t)=>[(1000,qI b20 L a)]) (λ(j,a,t)=>j<=i/\Po L ((bf L (aJ cs most) (aO cy) i).emit++[(Et L (aJ cs most) (aO cy) (bf L (aJ cs most) (aO cy) i))]) ((bf L (aJ cs most) (aO cy) i).sil++[(C9 L (bf L (aJ cs most) (aO cy) i))]) (bf L (aJ cs most) (aO cy) i).ties (Et L (aJ cs most) (aO cy) (bf L (aJ cs most) (aO cy) i)) (C9 L (bf L (aJ cs most) (aO cy) i)) i (i-j) j a t=Pq L (aJ cs most) (aO cy) i (bf L (aJ cs most) (aO cy) i)) (λ(j,a,t)=>i-j) (0,TU L (aJ cs most) (aO cy) (bf L (aJ cs most) (aO cy) i),(i:Int)) (.cons (bM rfl) (.cons (fG rfl) (.cons (fG rfl) (.cons (fG rfl) (.cons (bM rfl) (.cons (bM rfl) (.cons (bM rfl) .nil))))))) (.cons (iJ rfl) (.cons (iJ rfl) (.cons (rH rfl) (.cons (rH rfl) (.cons (rH rfl) (.cons (rH rfl) (.cons (rH rfl) .nil))))))) ⟨⟨Nat.zero_le _,rfl⟩,.dR,.cons rfl .nil⟩ ?_
   rintro⟨j,a,t⟩ ⟨h2,hr⟩
   refine AW.seq (AW.sg hE rfl (ah rfl (ah rfl (aN rfl rfl rfl (ah rfl (OL.split 129 rfl (λaW1=>?_) (λaW1=>?_)))))))
   .try simp only[bY] at aW1
    refine OL.yes rfl (Yz rfl (OL.yes rfl (OL.qo (v:=.d (dI (jE L a 3))) (.mk (args':=[.ptr 1000 b20 0,.d (dI 3)]) rfl (.cons (aZ.ptr) (.cons vR (.nil))) (bH (id:=1000) (blk:=qI b20 L a) rfl) gy (zC (by decide) nL)) (OL.yes rfl (dm rfl rfl rfl (iV rfl rfl (OL.nil ?_)))))))
    refine AW.cond rfl (λhn=>?_) (λhn=>?_)
    .have hn:jE L a 3=0:=jC hn;obtain⟨fu,hf⟩:∃ fu,i-j=fu+1:=⟨i-j-1,by omega⟩
     rw[hf,Po,if_pos hn] at hr;rw[show fu=i-(j+1) by omega] at hr
     have hzj:=hok.UL j (by omega)
     refine AW.skip (AW.seq (AW.block (AW.sg hE rfl (ah rfl (nt rfl (ah rfl (OL.split 138 rfl (λha=>?_) (λha=>?_))))))))
     .have ha:(C9 L (bf L (aJ cs most) (aO cy) i))=false:=by have e:(!(C9 L (bf L (aJ cs most) (aO cy) i)))=true:=ha;simpa using e
      refine OL.yes rfl (aF fd.bZ rfl rfl (OL.yes rfl (ak ce.bools rfl rfl rfl (OL.yes rfl (ah rfl (OL.yes rfl (dV sl.bools rfl rfl (by omega) ?_)))))))
      refine OL.yes rfl (ES ce.bool false (by decide) rfl rfl (show j<(bf L (aJ cs most) (aO cy) (i+1)).sil.length by omega) rfl (OL.yes rfl (nt rfl (iV rfl rfl (ah rfl (OL.split 146 rfl (λhb=>?_) (λhb=>?_)))))))
      .have hb:((bf L (aJ cs most) (aO cy) i).sil++[(C9 L (bf L (aJ cs most) (aO cy) i))]).getD j false=false:=by have e:(!(((bf L (aJ cs most) (aO cy) i).sil++[(C9 L (bf L (aJ cs most) (aO cy) i))]).getD j false))=true:=hb;simpa using e
       refine OL.yes rfl (aF fd.dS rfl rfl (OL.yes rfl (ak ce.aW rfl rfl rfl (OL.yes rfl (ah rfl (OL.yes rfl (dV sl.aW rfl rfl (by omega) ?_)))))))
       refine OL.yes rfl ?_;have e3s:(bf L (aJ cs most) (aO cy) (i+1)).emit.getD j []=(bf L (aJ cs most) (aO cy) i).emit.getD j []:=mM (by rw[show (Wx L (aJ cs most) (aO cy) i (WN L ((aJ cs most)+1) 0)).emit.length=i from m3];omega)
       have lj:((bf L (aJ cs most) (aO cy) i).emit.getD j []).length<=(aO cy):=Nat.le_trans (Nat.le_of_eq hzj.1) (by split;exact Nat.zero_le _;exact Nat.le_refl _)
       refine ES ce.aQ [] (by decide) rfl rfl (show j<(bf L (aJ cs most) (aO cy) (i+1)).emit.length by omega) rfl ?_
       rw[e3s];refine OL.yes rfl (ah rfl (OL.yes rfl (aY rfl .dR (oN hzj.2.2.1 mze ⟨by decide,by decide,by omega⟩) (iV rfl rfl (OL.nil (AW.cond rfl (λhe=>?_) (λhe=>?_)))))))
       .have he:((bf L (aJ cs most) (aO cy) i).emit++[(Et L (aJ cs most) (aO cy) (bf L (aJ cs most) (aO cy) i))]).getD j []=(Et L (aJ cs most) (aO cy) (bf L (aJ cs most) (aO cy) i)):=by rw[show ((bf L (aJ cs most) (aO cy) i).emit++[(Et L (aJ cs most) (aO cy) (bf L (aJ cs most) (aO cy) i))]).getD j []=(bf L (aJ cs most) (aO cy) i).emit.getD j [] from e3s];exact jC he
        refine AW.rg hE rfl (aF fd.fF rfl rfl (ak ce.ints rfl rfl rfl (ah rfl (dV sl.ints rfl rfl (by omega) (ES ce.int 0 (by decide) rfl rfl (by omega) rfl (ay rfl (OL.nil ?_)))))))
        refine AW.rg hE rfl (ah rfl (aB rfl rfl (by omega) (ay rfl (OL.nil ?_))))
        exact AW.again (x:=(j,a,t)) (j+1,MH L a,(bf L (aJ cs most) (aO cy) i).ties.getD j 0) (by (simp only[];omega)) ⟨⟨by omega,by rw[if_pos ⟨ha,hb,he⟩] at hr;exact hr⟩,Knows.app .Nw .dR,bn.app (.cons rfl (.cons rfl (.cons rfl (.cons rfl (.cons rfl (.cons rfl (.cons rfl .nil))))))) (.cons rfl .nil)⟩
       .have he:¬ ((bf L (aJ cs most) (aO cy) i).emit++[(Et L (aJ cs most) (aO cy) (bf L (aJ cs most) (aO cy) i))]).getD j []=(Et L (aJ cs most) (aO cy) (bf L (aJ cs most) (aO cy) i)):=by rw[show ((bf L (aJ cs most) (aO cy) i).emit++[(Et L (aJ cs most) (aO cy) (bf L (aJ cs most) (aO cy) i))]).getD j []=(bf L (aJ cs most) (aO cy) i).emit.getD j [] from e3s];exact kK he
        refine AW.skip (AW.rg hE rfl (ah rfl (aB rfl rfl (by omega) (ay rfl (OL.nil ?_)))))
        exact AW.again (x:=(j,a,t)) (j+1,MH L a,t) (by (simp only[];omega)) ⟨⟨by omega,by rw[if_neg (λc=>he c.2.2)] at hr;exact hr⟩,Knows.app .Nw .dR,bn.app (.cons rfl (.cons rfl (.cons rfl (.cons rfl (.cons rfl (.cons rfl (.cons rfl .nil))))))) (.cons rfl .nil)⟩
      .have hb:((bf L (aJ cs most) (aO cy) i).sil++[(C9 L (bf L (aJ cs most) (aO cy) i))]).getD j false=true:=by have e:(!(((bf L (aJ cs most) (aO cy) i).sil++[(C9 L (bf L (aJ cs most) (aO cy) i))]).getD j false))=false:=hb;simpa using e
       refine OL.nd rfl (OL.nd rfl (OL.nd rfl (OL.nd rfl (OL.nd rfl (OL.nd rfl (OL.nd rfl (eG rfl rfl ?_)))))));refine OL.nil (jD rfl ?_);refine AW.skip (AW.rg hE rfl (ah rfl (aB rfl rfl (by omega) (ay rfl (OL.nil ?_)))))
       exact AW.again (x:=(j,a,t)) (j+1,MH L a,t) (by (simp only[];omega)) ⟨⟨by omega,by rw[if_neg (λc=>by rw[hb] at c;cases c.2.1)] at hr;exact hr⟩,Knows.app .Nw .dR,bn.app (.cons rfl (.cons rfl (.cons rfl (.cons rfl (.cons rfl (.cons rfl (.cons rfl .nil))))))) (.cons rfl .nil)⟩
     .have ha:(C9 L (bf L (aJ cs most) (aO cy) i))=true:=by have e:(!(C9 L (bf L (aJ cs most) (aO cy) i)))=false:=ha;simpa using e
      refine OL.nd rfl (OL.nd rfl (OL.nd rfl (OL.nd rfl (OL.nd rfl (OL.nd rfl (eG rfl rfl (ah rfl ?_)))))));refine OL.nd rfl (OL.nd rfl (OL.nd rfl (OL.nd rfl (OL.nd rfl (OL.nd rfl (OL.nd rfl (eG rfl rfl ?_)))))));refine OL.nil (jD rfl ?_);refine AW.skip (AW.rg hE rfl (ah rfl (aB rfl rfl (by omega) (ay rfl (OL.nil ?_)))))
      exact AW.again (x:=(j,a,t)) (j+1,MH L a,t) (by (simp only[];omega)) ⟨⟨by omega,by rw[if_neg (λc=>by rw[ha] at c;cases c.1)] at hr;exact hr⟩,Knows.app .Nw .dR,bn.app (.cons rfl (.cons rfl (.cons rfl (.cons rfl (.cons rfl (.cons rfl (.cons rfl .nil))))))) (.cons rfl .nil)⟩
    .have hn:¬ jE L a 3=0:=kK hn;refine AW.exit ?_;obtain⟨fu,hf⟩:∃ fu,i-j=fu+1:=⟨i-j-1,by omega⟩
     rw[hf,Po,if_neg (show ¬ jE L a 3=0 from hn)] at hr
     have hr1:t=(Pq L (aJ cs most) (aO cy) i (bf L (aJ cs most) (aO cy) i)).1:=congrArg Prod.fst hr;have hr2:MH L a=(Pq L (aJ cs most) (aO cy) i (bf L (aJ cs most) (aO cy) i)).2:=congrArg Prod.snd hr;exact AW.reach () ⟨trivial,Knows.app .y9 (.cons (aZ.int hr1) .nil),bn.app (.cons rfl (.cons rfl (.cons rfl (.cons rfl (.cons rfl (.cons rfl (.cons rfl .nil))))))) (.cons (by rw[<- hr2];rfl) .nil)⟩
   .try simp only[bY] at aW1
    refine OL.nd rfl (OL.nd rfl (OL.nd rfl (eG rfl rfl (OL.nil (jD rfl ?_)))));refine AW.exit ?_;rw[show i-j=0 by omega,Po] at hr
    have hr1:t=(Pq L (aJ cs most) (aO cy) i (bf L (aJ cs most) (aO cy) i)).1:=congrArg Prod.fst hr;have hr2:a=(Pq L (aJ cs most) (aO cy) i (bf L (aJ cs most) (aO cy) i)).2:=congrArg Prod.snd hr;exact AW.reach () ⟨trivial,Knows.app .y9 (.cons (aZ.int hr1) .nil),bn.app (.cons rfl (.cons rfl (.cons rfl (.cons rfl (.cons rfl (.cons rfl (.cons rfl .nil))))))) (.cons (by rw[<- hr2];rfl) .nil)⟩
  rintro⟨⟩ hφ
  refine AW.rg hE rfl (aF fd.fF rfl rfl (ak ce.ints rfl rfl rfl (ah rfl (tC (y:=dI (Pq L (aJ cs most) (aO cy) i (bf L (aJ cs most) (aO cy) i)).1) sl.ints (VC.d _).vd rfl (by decide) ?_))))
  refine yG sl.ints rfl rfl rfl (by rw[dF];omega) (VC.d _) (λy hy=>by rw[qm hy];rfl) (by simp only[nN];omega) (by simp only[nN];omega) (.inr rfl) (ys:=((bf L (aJ cs most) (aO cy) (i+1)).ties.map dI)) (by show _=List.map dI (_++_);rw[List.map_append];rfl) (n2:=i+1) rfl λq5 d5=>?_
  refine aF fd.fF rfl rfl (dA sz.ints rfl rfl rfl rfl rfl (au rfl) (cells2:=[_,_,_,_,_,_,_,_,_,_,_]) rfl (OL.nil (AW.rg hE rfl (ah rfl (aB rfl rfl (by omega) (ay rfl (OL.nil ?_)))))))
  exact AW.again (x:=(i,p1,c1,p2,c2,p3,c3,p4,c4,p5,c5)) (i+1,q1,d1,q2,d2,q3,d3,q4,d4,q5,d5) (by (simp only[];omega)) ⟨by omega,Knows.app .CZ .bC,bn.app (.cons rfl .nil) (.cons rfl (.cons rfl (.cons rfl (.cons rfl (.cons rfl (.cons rfl (.cons rfl .nil)))))))⟩
 .try simp only[bY] at h50
  refine AW.exit (AW.seq ?_);obtain rfl:i=(aJ cs most):=by omega
  refine AW.rg hE rfl (aG ag.aU rfl rfl (vs:=[_,_,_,_,_,_,_,_,_,_,_]) rfl (au rfl) (dA sz.aU rfl rfl rfl rfl rfl (au rfl) (cells2:=[_,_,_,_,_,_,_,_,_,_,_]) rfl (OL.nil ?_)));exact AW.ret (aH.r ⟨_,.dD rfl rfl ag.aU (au rfl) .nil,.ag (.cons (.le vR) (.cons (.le vR) (.cons (.le vR) (.cons (.le vR) (.cons (.le vR) (.cons (.le vR) (.cons (RO.row rfl (by rw[dF,m1]) rfl) (.cons (RO.row rfl (by rw[dF,m2]) rfl) (.cons (RO.row rfl (by rw[dF,m3]) rfl) (.cons (RO.row rfl (by rw[dF,m5]) rfl) (.cons (RO.row rfl (by rw[dF,m4]) rfl) .nil)))))))))))⟩)
theorem WA {L:List Int}{cs cy most:Int}(hm:1<=most/\most<=12)(nL:L.length<=9223372036854775807):ai P F.kM [.ag [.d (dI cs),.d (dI cy),.d (ints L)],.d (dI most)] (uY (kQ L cs cy most)):=by
 refine ai.intro fn.kM (by rfl) (by rfl) (au (by rfl)) λE hE=>(AW.sg hE rfl (iC rfl rfl λb2=>(al z.aU rfl λb4=>(OL.nil (AW.sg hE rfl (aG ag.Chain rfl rfl (vs:=[_,_,_]) rfl (au rfl) (ah rfl ?_)))))))
 refine aY rfl .wL (ag9 hm nL) (dA sz.aU rfl rfl rfl rfl rfl (au rfl) (cells2:=[_,_,_,_,_,_,_,_,_,_,_]) rfl (OL.nil ?_));exact AW.ret (aH.r ⟨_,.dD rfl rfl ag.aU (au rfl) .nil,.ag (.cons (.le vR) (.cons (.le vR) (.cons (.le vR) (.cons (.le vR) (.cons (.le vR) (.cons (.le vR) (.cons (.le vR) (.cons (.le vR) (.cons (.le vR) (.cons (.le vR) (.cons (.le vR) .nil)))))))))))⟩)

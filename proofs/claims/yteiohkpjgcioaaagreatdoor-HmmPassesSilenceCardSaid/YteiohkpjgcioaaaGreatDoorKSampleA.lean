/-
  Walks of drawings, part 1: words, intervals (printed by mk2.py).
-/
import Derived.Test.YteiohkpjgcioaaaGreatDoorKMod37c
set_option linter.unusedVariables false
set_option linter.unusedSimpArgs false
namespace Go.Proofs.YteiohkpjgcioaaaGreatDoor
open Go Go.AL
abbrev qI (b:Nat)(L:List Int)(a:Nat):kL:=.box b T.Tape [.d (ints L),.d (dI a)]
theorem jw {v m:Int}(hm:1<=m/\m<=4611686018427387904):ai P F.jw [.d (dI v),.d (dI m)] (.d (dI (within v m))):=by
 refine ai.intro fn.jw (by rfl) (by rfl) (au (by rfl)) λE hE=>(AW.sg hE rfl (ay rfl (OL.nil (AW.seq (AW.sg hE rfl (ah rfl (aN rfl rfl rfl ?_)))))))
 refine OL.nil (AW.cond rfl (λhno=>absurd hno (by simp;omega)) (λ_=>?_))
 refine AW.skip (AW.sg hE rfl (ah rfl (ah rfl (bo rfl rfl (aZ4 (by omega)) ?_))))
 have ht:=tmod_lt (v:=v) hm.1;refine ay rfl (OL.nil (AW.seq (AW.sg hE rfl (ah rfl (aN rfl rfl rfl (OL.nil (AW.cond rfl (λh=>?_) (λh=>?_))))))))
 .try simp only[bY] at h
  refine AW.rg hE rfl (ah rfl (ah rfl (aB rfl rfl (by omega) (ay rfl (OL.nil (AW.sg hE rfl (ah rfl ?_)))))))
  exact ay rfl (OL.nil (AW.ret (aH.r ⟨_,.tmp rfl .nil,.le (aZ.int (Xx hm.1 h))⟩)))
 .try simp only[bY] at h
  exact AW.skip (AW.sg hE rfl (ah rfl (ay rfl (OL.nil (AW.ret (aH.r ⟨_,.tmp rfl .nil,.le (aZ.int (Xw hm.1 h))⟩))))))
theorem zC {L:List Int}{a b:Nat}{m:Int}(hm:1<=m/\m<=4611686018427387904)(nL:L.length<=9223372036854775807):fV P F.ul [.ptr 1000 b 0,.d (dI m)] (mem1 1000 (qI b L a)) (.d (dI (jE L a m))) (mem1 1000 (qI b L (MH L a))):=by
 refine fV.intro fn.ul (by rfl) (by rfl) (au (by rfl)) λE hE=>(AW.sg hE rfl (ay rfl (OL.nil (AW.seq (AW.seq (AW.dg 1 [0,1,2,3,4,5,6,7,8,9] aj hE rfl (by kernel_rfl) (OI.aP (os:=[_,_,_,_,_,_,_,_,_,_]) rfl ?_)))))))
 refine Yz rfl (ncP rfl (aF fd.Sj rfl rfl (ak ce.int rfl rfl rfl (Yz rfl (ncP rfl (aF fd.an8 rfl rfl (ak ce.ints rfl rfl rfl ?_)))))));refine eH sl.ints rfl rfl (lG rfl rfl rfl (OL.nil (AW.cond rfl (λh=>?_) (λh=>?_))))
 .have h:=jC h;rw[show jE L a m=0 from if_pos (by omega),show MH L a=a from if_pos (by omega)]
  exact AW.sg hE rfl (ay rfl (OL.nil (AW.ret ⟨⟨_,.tmp rfl .nil,.le vR⟩,bH rfl⟩)))
 .have h:=kK h;rw[show jE L a m=within (L.getD a 0) m from if_neg (by omega),show MH L a=a+1 from if_neg (by omega)]
  refine AW.skip (AW.sg hE rfl (Yz rfl (ncP rfl (aF fd.Sj rfl rfl (ak ce.int rfl rfl rfl (aB rfl rfl (by omega) (ncP rfl ?_)))))))
  refine aF fd.Sj rfl rfl (dA sz.int rfl rfl rfl rfl rfl (au rfl) rfl (OL.nil (AW.seq (AW.dg 1 [0,1,2,3,4,5,6,7,8,9,10,11,12,13] aj hE rfl (by kernel_rfl) (OI.aP (os:=[_,_,_,_,_,_,_,_,_,_,_,_,_,_]) rfl ?_)))))
  refine Yz rfl (ncP rfl (aF fd.an8 rfl rfl (ak ce.ints rfl rfl rfl (Yz rfl (ncP rfl (aF fd.Sj rfl rfl (ak ce.int rfl rfl rfl ?_)))))));exact fC rfl rfl (by omega) (PI a sl.ints 0 rfl rfl (by omega) (by omega) rfl rfl (bP ce.int rfl (ah rfl (aY rfl .dR (jw (by assumption)) (ay rfl (OL.nil (AW.ret ⟨⟨_,.tmp rfl .nil,.le vR⟩,bH rfl⟩)))))))
theorem lC {L:List Int}{n a b:Nat}(hn:1<=n/\n<=1000000)(nL:L.length<=9223372036854775807):fV P F.lC [.ptr 1000 b 0,.d (dI n)] (mem1 1000 (qI b L a)) (.d (o9 (shares L n a))) (mem1 1000 (qI b L (WN L n a))):=by
 refine fV.intro fn.lC (by rfl) (by rfl) (au (by rfl)) λE hE=>(AW.sg hE rfl (oq rfl (OL.nil (AW.sg hE rfl (oq rfl (OL.nil (AW.sg hE rfl ?_)))))))
 refine ay rfl (OL.nil (AW.seq (AW.sg hE rfl (ay rfl (OL.nil (AW.own 5 25 T.int 1 rfl rfl (AW.block ?_)))))));refine AW.aK (α:=Nat × Nat × Nat) [(0,_),(1,_),(4,_)] [] (λ(i,b25,c)=>[(5,.bJ 25 b25 i c),(6,.d (dI (bV L i a).1.sum)),(7,.d (dI i))]) (λ(i,b25,c)=>[(25,.row b25 c T.int 1 ((bV L i a).1.map dI)),(1000,qI b L (bV L i a).2)]) (λ(i,b25,c)=>i<=n) (λ(i,b25,c)=>n-i) (0,0,0) (.cons (fG rfl) (.cons (bM rfl) (.cons (zi rfl) .nil))) .nil ⟨Nat.zero_le _,.wL,.cons rfl (.cons rfl .nil)⟩ ?_
 rintro⟨i,b25,c⟩ h1
 have h1:i<=n:=h1;have hpl:=wY L i a;have hps:=NK L i a;refine AW.seq (AW.sg hE rfl (ah rfl (ah rfl (aN rfl rfl rfl (OL.nil (AW.cond rfl (λh15=>?_) (λh15=>?_)))))))
 .try simp only[bY] at h15
  refine AW.skip (AW.seq (AW.block (AW.sg hE rfl (Yz rfl (OL.qo (v:=.d (dI (jE L (bV L i a).2 4))) (.mk (args':=[.ptr 1000 b 0,.d (dI 4)]) rfl (.cons vR (.cons vR (.nil))) (bH (id:=1000) (blk:=qI b L (bV L i a).2) rfl) gy (zC (by decide) nL)) ?_)))))
  have hv:=EZ (L:=L) (a:=(bV L i a).2) (m:=4) (by decide)
  refine ay rfl (OL.nil ?_);refine AW.AP (α:=Unit) [(0,_),(1,_),(4,_),(5,_),(6,_),(7,_)] [(25,_),(1000,_)] (λ_u=>[(8,.d (dI (if jE L (bV L i a).2 4=3 then 0 else jE L (bV L i a).2 4)))]) (λ_u=>[]) (λ_u=>True) (.cons (fG rfl) (.cons (bM rfl) (.cons (zi rfl) (.cons (uH rfl) (.cons (bM rfl) (.cons (bM rfl) .nil)))))) (.cons (rH rfl) (.cons (iJ rfl) .nil)) ?_ ?_
  .refine AW.sg hE rfl (ah rfl (dm rfl rfl rfl (OL.nil (AW.cond rfl (λh21=>?_) (λh21=>?_)))))
   .try simp only[bY] at h21
    exact AW.rg hE rfl (ay rfl (OL.nil (AW.reach () ⟨trivial,Knows.app .Lj (.cons (aZ.int (by rw[if_pos h21])) .nil),bn.app (.cons rfl (.cons rfl .nil)) (.nil)⟩)))
   .try simp only[bY] at h21
    exact AW.skip (AW.reach () ⟨trivial,Knows.app .Lj (.cons (aZ.int (by rw[if_neg h21])) .nil),bn.app (.cons rfl (.cons rfl .nil)) (.nil)⟩)
  rintro⟨⟩ hφ
  have hv2:0<=(if jE L (bV L i a).2 4=3 then 0 else jE L (bV L i a).2 4)/\(if jE L (bV L i a).2 4=3 then 0 else jE L (bV L i a).2 4)<=2:=by split <;> omega
  refine AW.sg hE rfl (fQ rfl (ah rfl (tC sl.ints (VC.d _).vd rfl (by decide) (yG sl.ints rfl rfl rfl (by rw[dF,hpl]) (VC.d _) (by simp[D.cells]) (by simp;omega) (by simp;omega) (.inr rfl) (ys:=(bV L (i+1) a).1.map dI) (by simp[bV]) (n2:=i+1) (by simp) λb2 c2=>(uj rfl (OL.nil (AW.rg hE rfl ?_)))))))
  refine ah rfl (ah rfl (aB rfl rfl (by omega) (ay rfl (OL.nil (AW.rg hE rfl (ah rfl (aB rfl rfl (by omega) ?_)))))))
  refine ay rfl (OL.nil ?_);exact AW.again (x:=(i,b25,c)) (i+1,b2,c2) (by (simp only[];omega)) ⟨by omega,Knows.app .wL (.cons vR (.cons (aZ.int (by simp only[bV,List.sum_append,List.sum_cons,List.sum_nil];omega)) .bC)),.cons rfl (.cons rfl .nil)⟩
 .try simp only[bY] at h15
  refine AW.exit ?_;obtain rfl:i=n:=by omega
  refine AW.AP (α:=Unit) [(1,_),(4,_),(5,_)] [] (λ_u=>[(6,.d (dI (shS L i a)))]) (λ_u=>[(25,.row b25 c T.int 1 ((WM L i a).map dI)),(1000,qI b L (WN L i a))]) (λ_u=>True) (.cons (bM rfl) (.cons (zi rfl) (.cons (uH rfl) .nil))) .nil ?_ ?_
  .refine AW.sg hE rfl (ah rfl (dm rfl rfl rfl (OL.nil (AW.cond rfl (λh30=>?_) (λh30=>?_)))))
   .try simp only[bY] at h30
    refine AW.sg hE rfl (fQ rfl (Yz rfl (OL.qo (v:=.d (dI (jE L (bV L i a).2 100))) (.mk (args':=[.ptr 1000 b 0,.d (dI 100)]) rfl (.cons vR (.cons vR (.nil))) (bH (id:=1000) (blk:=qI b L (bV L i a).2) rfl) gy (zC (by decide) nL)) ?_)))
    have hwr:=mJ (v:=jE L (bV L i a).2 100) (m:=i) (by omega)
    refine ah rfl (aY rfl .dR (jw (by omega)) (Uj sl.ints rfl rfl (by omega) (by omega) rfl (AA sz.int rfl (VC.d _).vd rfl rfl (by rw[dF];omega) rfl (OL.nil (AW.rg hE rfl (ay rfl (OL.nil ?_)))))))
    have e1:WM L i a=(bV L i a).1.set (within (jE L (bV L i a).2 100) i).toNat 1:=if_pos h30;have e2:shS L i a=1:=if_pos h30;have e3:WN L i a=MH L (bV L i a).2:=if_pos h30;exact AW.reach () ⟨trivial,Knows.app .wL (.cons (aZ.int (by rw[e2])) .nil),.cons (by rw[e1,List.map_set];rfl) (.cons (by rw[e3];rfl) .nil)⟩
   .try simp only[bY] at h30
    refine AW.skip ?_;have e1:WM L i a=(bV L i a).1:=if_neg h30;have e2:shS L i a=(bV L i a).1.sum:=if_neg h30;have e3:WN L i a=(bV L i a).2:=if_neg h30;exact AW.reach () ⟨trivial,Knows.app .wL (.cons (aZ.int (by rw[e2])) .nil),.cons (by rw[e1];rfl) (.cons (by rw[e3];rfl) .nil)⟩
  rintro⟨⟩ hφ
  have hsum:=F5 L i a hn.1;have hsl:=Je L i a;refine AW.sg hE rfl (oq rfl (OL.nil (AW.seq (AW.sg hE rfl (ay rfl (OL.nil (AW.own 9 54 T.Rat 3 rfl rfl ?_)))))));refine AW.block ?_;refine AW.aK (α:=Nat × Nat × Nat) [(1,_),(4,_),(5,_),(6,_)] [(25,_),(1000,_)] (λ(j,Wl,c)=>[(9,.bJ 54 Wl j c),(10,.d (dI j))]) (λ(j,Wl,c)=>[(54,.row Wl c T.Rat 3 (((shares L i a).take j).map dQ))]) (λ(j,Wl,c)=>j<=i) (λ(j,Wl,c)=>i-j) (0,0,0) (.cons (bM rfl) (.cons (zi rfl) (.cons (uH rfl) (.cons (bM rfl) .nil)))) (.cons (rH rfl) (.cons (iJ rfl) .nil)) ⟨Nat.zero_le _,.dR,.cons rfl .nil⟩ ?_
  rintro⟨j,Wl,c54⟩ h2
  have h2:j<=i:=h2;have htl:=take_len (l:=shares L i a) (i:=j) (by rw[jd];exact h2)
  refine AW.seq (AW.sg hE rfl (ah rfl (ah rfl (aN rfl rfl rfl (OL.nil (AW.cond rfl (λh39=>?_) (λh39=>?_)))))))
  .try simp only[bY] at h39
   refine AW.skip (AW.seq (AW.block (AW.seq ?_)));have hg:=YP (L:=L) (a:=a) hn.1 (show j<i by omega)
   refine AW.rg hE rfl (fQ rfl (ah rfl (dV sl.ints rfl rfl (by omega) (ES ce.int 0 (by decide) rfl rfl (by omega) rfl (ah rfl (aY rfl .dR (Cj (by omega) (by omega) (by omega)) ?_))))))
   rw[<- NJ (show j<i by omega)]
   refine BN rfl (ex rfl rfl (ex rfl rfl (al z.Rat rfl λb11=>(dA sz.Rat rfl rfl rfl rfl rfl (au rfl) (cells2:=[_,_,_]) rfl (ay rfl (OL.nil (AW.rg hE rfl ?_)))))));refine fQ rfl (aG ag.Rat rfl rfl (vs:=[_,_,_]) rfl (au rfl) (tC (y:=dQ _) sl.aQ Dp rfl (by decide) ?_))
   refine yG sl.aQ rfl rfl rfl (by rw[dF,htl]) (VC.d _) (by simp[D.cells]) (by simp;omega) (by simp;omega) (.inr rfl) (ys:=((shares L i a).take (j+1)).map dQ) (by rw[cu (by rw[jd];omega) 0,List.map_append];rfl) (n2:=j+1) (by simp) λb2 c2=>?_
   refine uj rfl (OL.nil (AW.rg hE rfl (ah rfl (aB rfl rfl (by omega) (ay rfl (OL.nil ?_))))))
   exact AW.again (x:=(j,Wl,c)) (j+1,b2,c2) (by (simp only[];omega)) ⟨by omega,Knows.app .CZ .dR,bn.app (.cons rfl (.cons rfl .nil)) (.cons rfl .nil)⟩
  .try simp only[bY] at h39
   refine AW.exit (AW.seq ?_);obtain rfl:j=i:=by omega
   refine AW.freeze 54 rfl (AW.to [(9,.d (o9 (shares L j a)))] [(1000,qI b L (WN L j a))] (.cons (dP (by rw[dF,htl]) (by rw[aa7 (by rw[jd];omega)])) .nil) (.cons rfl .nil) ?_)
   exact AW.rg hE rfl (ah rfl (ay rfl (OL.nil (AW.ret ⟨⟨_,.tmp rfl .nil,.le vR⟩,bH rfl⟩))))
theorem oN {l m:List Rat}{B:Nat}(zl:Small B l)(zm:Small B m)(hB:1<=B/\B<=1048576/\l.length<=1099511627776):ai P F.oN [.d (o9 l),.d (o9 m)] (.d (dB (decide (l=m)))):=by
 refine ai.intro fn.oN (by rfl) (by rfl) (au (by rfl)) λE hE=>(AW.sg hE rfl (ay rfl (OL.nil (AW.seq (AW.sg hE rfl (ah rfl (eH sl.aQ rfl rfl ?_)))))))
 refine ah rfl (eH sl.aQ rfl rfl (bU rfl rfl rfl (OL.nil (AW.cond rfl (λh10=>?_) (λh10=>?_)))))
 .have hl:l.length≠m.length:=by simp at h10;omega
  exact AW.sg hE rfl (ay rfl (OL.nil (AW.ret (aH.r ⟨_,.tmp rfl .nil,.le (aZ.bool ((decide_eq_false λe=>hl (by rw[e])).symm))⟩))))
 .have hl:l.length=m.length:=by simp at h10;omega
  refine AW.skip (AW.seq (AW.sg hE rfl (ay rfl (OL.nil (AW.block ?_)))));refine AW.aK (α:=Nat) [(0,_),(1,_)] [] (λi=>[(5,.d (dI i))]) (λi=>[]) (λi=>i<=l.length/\∀ j,j<i->l.getD j 0=m.getD j 0) (λi=>l.length-i) 0 (.cons (bM rfl) (.cons (bM rfl) .nil)) .nil ⟨⟨Nat.zero_le _,λj hj=>by omega⟩,.bC,.nil⟩ ?_
  rintro i ⟨h1,h2⟩
  refine AW.seq (AW.sg hE rfl (ah rfl (ah rfl (eH sl.aQ rfl rfl (aN rfl rfl rfl (OL.nil (AW.cond rfl (λAO=>?_) (λAO=>?_))))))))
  .try simp only[bY] at AO
   refine AW.skip (AW.seq (AW.block (AW.seq ?_)));have z1:=zl.get hB.1 i;have z2:=zm.get hB.1 i;refine AW.dg 1 [0,1,2,3,4,5,6,7,8,9] aj hE rfl (by kernel_rfl) (OI.aP (os:=[_,_,_,_,_,_,_,_,_,_]) rfl ?_)
   refine ah rfl (ah rfl (bg sl.aQ 0 rfl rfl (by omega) rfl rfl (iU ag.Rat rfl (vs:=[_,_,_]) rfl (au rfl) (ah rfl (ah rfl (bg sl.aQ 0 rfl rfl (by omega) rfl rfl (iU ag.Rat rfl (vs:=[_,_,_]) rfl (au rfl) ?_)))))))
   refine aY rfl .dR (sJ (by omega) (by omega)) (bU rfl rfl rfl (OL.nil (AW.cond rfl (λhc=>?_) (λhc=>?_))))
   .have hc:l.getD i 0≠m.getD i 0:=λe=>by rw[yO.2 e] at hc;simp at hc
    exact AW.sg hE rfl (ay rfl (OL.nil (AW.ret (aH.r ⟨_,.tmp rfl .nil,.le (aZ.bool ((decide_eq_false λe=>hc (by rw[e])).symm))⟩))))
   .have hc:l.getD i 0=m.getD i 0:=yO.1 (by simpa using hc)
    exact AW.skip (AW.rg hE rfl (ah rfl (aB rfl rfl (by omega) (ay rfl (OL.nil (AW.again (x:=i) (i+1) (by omega) ⟨⟨by omega,λj hj=>by rcases Nat.lt_or_ge j i with h|h;exact h2 j h;obtain rfl:j=i:=(by omega);exact hc⟩,Knows.app .dR .bC,.nil⟩))))))
  .try simp only[bY] at AO
   exact AW.exit (AW.sg hE rfl (ay rfl (OL.nil (AW.ret (aH.r ⟨_,.tmp rfl .nil,.le (aZ.bool ((decide_eq_true (iK hl 0 λj hj=>h2 j (by omega))).symm))⟩)))))
theorem nT {l m:List Int}(nl:l.length<=9223372036854775807):ai P F.nT [.d (ints l),.d (ints m)] (.d (dI (D9 l m))):=by
 refine ai.intro fn.nT (by rfl) (by rfl) (au (by rfl)) λE hE=>(AW.sg hE rfl (ay rfl (OL.nil (AW.seq (AW.sg hE rfl (ah rfl (eH sl.ints rfl rfl ?_)))))))
 refine ah rfl (eH sl.ints rfl rfl (bU rfl rfl rfl (OL.nil (AW.cond rfl (λh10=>?_) (λh10=>?_)))))
 .have hl:l.length≠m.length:=by simp at h10;omega
  refine AW.seq (AW.sg hE rfl (ah rfl (eH sl.ints rfl rfl (ah rfl (eH sl.ints rfl rfl (aN rfl rfl rfl (OL.nil ?_)))))));refine AW.cond rfl (λh15=>?_) (λh15=>?_)
  .try simp only[bY] at h15
   exact AW.sg hE rfl (ay rfl (OL.nil (AW.ret (aH.r ⟨_,.tmp rfl .nil,.le (aZ.int (by unfold D9;rw[if_pos hl,if_pos (by omega)]))⟩))))
  .try simp only[bY] at h15
   exact AW.skip (AW.sg hE rfl (ay rfl (OL.nil (AW.ret (aH.r ⟨_,.tmp rfl .nil,.le (aZ.int (by unfold D9;rw[if_pos hl,if_neg (by omega)]))⟩)))))
 .have hl:l.length=m.length:=by simp at h10;omega
  refine AW.skip (AW.seq (AW.sg hE rfl (ay rfl (OL.nil (AW.block ?_)))));refine AW.aK (α:=Nat) [(0,_),(1,_)] [] (λi=>[(5,.d (dI i))]) (λi=>[]) (λi=>i<=l.length/\U6 (l.drop i) (m.drop i)=U6 l m) (λi=>l.length-i) 0 (.cons (bM rfl) (.cons (bM rfl) .nil)) .nil ⟨⟨Nat.zero_le _,rfl⟩,.bC,.nil⟩ ?_
  rintro i ⟨h1,h2⟩
  refine AW.seq (AW.sg hE rfl (ah rfl (ah rfl (eH sl.ints rfl rfl (aN rfl rfl rfl (OL.nil (AW.cond rfl (λh19=>?_) (λh19=>?_))))))))
  .try simp only[bY] at h19
   refine AW.skip (AW.seq (AW.block (AW.seq (AW.seq (AW.dg 1 [0,1,2,3,4,5,6,7,8] aj hE rfl (by kernel_rfl) (OI.aP (os:=[_,_,_,_,_,_,_,_,_]) rfl ?_))))))
   refine ah rfl (ah rfl (bg sl.ints 0 rfl rfl (by omega) rfl rfl (bP ce.int rfl (ah rfl (ah rfl (bg sl.ints 0 rfl rfl (by omega) rfl rfl (bP ce.int rfl ?_)))))))
   refine aN rfl rfl rfl (OL.nil (AW.cond rfl (λh30=>?_) (λh30=>?_)))
   .try simp only[bY] at h30
    exact AW.sg hE rfl (ay rfl (OL.nil (AW.ret (aH.r ⟨_,.tmp rfl .nil,.le (aZ.int (by unfold D9;rw[if_neg (by omega),<- h2,Ko (by omega) (by omega),if_pos h30]))⟩))))
   .try simp only[bY] at h30
    refine AW.skip (AW.seq (AW.dg 1 [0,1,2,3,4,5,6,7,8] aj hE rfl (by kernel_rfl) (OI.aP (os:=[_,_,_,_,_,_,_,_,_]) rfl ?_)))
    refine ah rfl (ah rfl (bg sl.ints 0 rfl rfl (by omega) rfl rfl (bP ce.int rfl (ah rfl (ah rfl (bg sl.ints 0 rfl rfl (by omega) rfl rfl (bP ce.int rfl ?_)))))))
    refine iI rfl rfl rfl (OL.nil (AW.cond rfl (λh39=>?_) (λh39=>?_)))
    .try simp only[bY] at h39
     exact AW.sg hE rfl (ay rfl (OL.nil (AW.ret (aH.r ⟨_,.tmp rfl .nil,.le (aZ.int (by unfold D9;rw[if_neg (by omega),<- h2,Ko (by omega) (by omega),if_neg h30,if_pos h39]))⟩))))
    .try simp only[bY] at h39
     exact AW.skip (AW.rg hE rfl (ah rfl (aB rfl rfl (by omega) (ay rfl (OL.nil (AW.again (x:=i) (i+1) (by omega) ⟨⟨by omega,by rw[Ko (by omega) (by omega),if_neg h30,if_neg h39] at h2;exact h2⟩,Knows.app .dR .bC,.nil⟩))))))
  .try simp only[bY] at h19
   exact AW.exit (AW.sg hE rfl (ay rfl (OL.nil (AW.ret (aH.r ⟨_,.tmp rfl .nil,.le (aZ.int (by unfold D9;rw[if_neg (by omega),<- h2,List.drop_eq_nil_of_le (by omega)];simp[U6]))⟩)))))
theorem pO {n:Int}(hn:-9223372036854775808<=n/\n<=9223372036854775807):ai P F.pO [.d (dI n)] (vQ (n:Rat)):=by
 refine ai.intro fn.pO (by rfl) (by rfl) (au (by rfl)) λE hE=>(AW.sg hE rfl (al z.Rat rfl λb2=>(OL.nil (AW.sg hE rfl (ah rfl (aY rfl .dR (Cj hn (by decide) (by decide)) ?_))))))
 rw[show (n:Rat) / ((1:Int):Rat)=(n:Rat) by rw[show ((1:Int):Rat)=1 from rfl];grind]
 refine BN rfl (ex rfl rfl (ex rfl rfl (al z.Rat rfl λb3=>(dA sz.Rat rfl rfl rfl rfl rfl (au rfl) (cells2:=[_,_,_]) rfl (ay rfl (OL.nil (AW.sg hE rfl ?_)))))));exact aG ag.Rat rfl rfl (vs:=[_,_,_]) rfl (au rfl) (dA sz.Rat rfl rfl rfl rfl rfl (au rfl) (cells2:=[_,_,_]) rfl (OL.nil (AW.ret (aH.r ⟨_,.dD rfl rfl ag.Rat (au rfl) .nil,.ag (.cons (.le vR) (.cons (.le vR) (.cons (.le vR) .nil)))⟩))))
theorem Ep:ai P F.pO [.d (dI 1)] (vQ 1):=by
 have h:=pO (n:=1) (by decide)
 rw[show ((1:Int):Rat)=1 from rfl] at h;exact h
theorem ax2:ai P F.uJ [.d (dI 1),.d (dI 2)] (.jM [vQ (1 / 2),.d (dI 0)]):=by
 have h:=Cj (n:=1) (d:=2) (by decide) (by decide) (by decide)
 rw[Y3] at h;exact h

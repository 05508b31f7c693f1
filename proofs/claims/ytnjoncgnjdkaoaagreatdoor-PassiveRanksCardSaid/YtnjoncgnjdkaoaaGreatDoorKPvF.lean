/-
  Walks for chapter 30, part 5: the specification's words, weights of a tape, samples of a model (printed by mk2.py).
-/
import Derived.Test.YtnjoncgnjdkaoaaGreatDoorKPvE
import Derived.Test.YtnjoncgnjdkaoaaGreatDoorKWkY
set_option maxRecDepth 8000
set_option maxHeartbeats 1600000
set_option linter.unusedVariables false
set_option linter.unusedSimpArgs false
namespace Go.Proofs.YtnjoncgnjdkaoaaGreatDoor
open Go Go.AL
def zk (L:List Int)(a:Nat):Rat:=((vG L a 9-4:Int):Rat) / ((1+vG L (jl L a) 3:Int):Rat)
def vz (L:List Int)(a:Nat):Nat:=jl L (jl L a)
theorem Kv (L:List Int)(a:Nat):IB 1 24 (zk L a):=by
 have h1:=kT (L:=L) (a:=a) (m:=9) (by decide)
 have h2:=kT (L:=L) (a:=jl L a) (m:=3) (by decide)
 exact aC3 (by omega) (by omega)
theorem ug {A:List (List Int)}{k i:Nat}(hi:i<A.length):(A.take (i+1)).flatMap (dh k)=(A.take i).flatMap (dh k)++dh k (A.getD i []):=by
 rw[oZ [] hi,List.flatMap_append];simp
theorem Ji {k:Nat}:∀ A:List (List Int),(A.flatMap (dh k)).length=k*A.length
 | []=>by rw[List.length_nil,Nat.mul_zero];rfl
 | w::A=>by rw[List.flatMap_cons,iU,wz,Ji A,List.length_cons,Nat.mul_succ];omega
theorem aE8 {n:Int}:(n:Rat) / ((1:Int):Rat)=(n:Rat):=by rw[show ((1:Int):Rat)=1 from rfl];grind
theorem aE9 {A:List (List Int)}{f:List Int->Rat}{i:Nat}(hi:i<A.length):(A.map f).getD i 0=f (A.getD i []):=by
 rw[gI,List.getElem?_map,kL hi,gI,kL hi];rfl
theorem ap5 {s n:Nat}(hs:1<=s/\s<=32)(hm:n<=256)(hb:(ah s n).length<=4000):aj P F.zV [.d (dI s),.d (dI n)] (.jE [.d (tZ (ah s n)),.d (dI 0)]):=by
 refine aj.intro fn.zV (by rfl) (by rfl) (aA (by rfl)) λE hE=>(AW.sg hE rfl (jg rfl (aC rfl (OL.nil (AW.seq (AW.sg hE rfl (ai rfl ?_)))))))
 refine aX rfl rfl (c:=false) (decide_eq_false (by omega)) (ai rfl (OL.yes rfl (ai rfl (OL.yes rfl (gV rfl rfl (c:=false) (decide_eq_false (by omega)) (jZ rfl rfl (ai rfl ?_)))))))
 refine OL.yes rfl (ai rfl (OL.yes rfl (aX rfl rfl (c:=false) (decide_eq_false (by omega)) (jZ rfl rfl (ai rfl (OL.yes rfl (ai rfl ?_)))))))
 refine OL.yes rfl (gV rfl rfl (c:=false) (decide_eq_false (by omega)) (jZ rfl rfl (OL.nil (oz rfl ?_))))
 refine AW.skip (AW.sg hE rfl (lt0 sl.ints (aL2 (y:=ints []) sl.dX VC.mt.vd rfl (by decide) rfl λb27=>(oC rfl (OL.nil (AW.sg hE rfl (lt0 sl.ints ?_)))))))
 refine xe (y:=ints []) sl.dX VC.mt.vd rfl (by decide) (aC rfl (OL.nil (AW.seq (AW.sg hE rfl (aC rfl (OL.nil (AW.block ?_)))))))
 refine AW.rename 27 67 rfl ?_;refine AW.aU (α:=Nat × Nat × Nat) [(0,_),(1,_)] [] (λ(q,b,c)=>[(6,.bH 67 b (ah s q).length c),(7,.d (tZ (pO s q))),(8,.d (dI ((q+1:Nat):Int)))]) (λ(q,b,c)=>[(67,.row b c T.ints 1 ((ah s q).map ints))]) (λ(q,b,c)=>q<=n) (λ(q,b,c)=>n-q) (0,b27,1) (.cons (bY rfl) (.cons (bY rfl) .nil)) .nil ⟨Nat.zero_le _,.cons bG.bH .gy,.cons rfl .nil⟩ ?_
 rintro⟨q,b,c⟩ h1
 have h1:q<=n:=h1;have hql:=(tY (k:=s) h1).2.1;refine AW.seq (AW.sg hE rfl (ai rfl (ai rfl (wZ rfl rfl rfl (OL.nil (AW.cond rfl (λhq=>?_) (λhq=>?_)))))))
 .have hq:q<n:=by have:=kK hq;omega
  have hq1:=(tY (k:=s) (show q+1<=n by omega)).2.1
  rw[ah,iU] at hq1;have hlv:(pO s (q+1)).length=s*(pO s q).length:=Ji _;have hsl:(pO s q).length<=s*(pO s q).length:=Nat.le_mul_of_pos_left _ (by omega)
  refine AW.skip (AW.seq (AW.block (AW.sg hE rfl (jg rfl (OL.nil (AW.seq (AW.seq ?_)))))));refine AW.own 9 57 T.ints 1 rfl rfl (AW.rg hE rfl (aC rfl (OL.nil (AW.block ?_))));refine AW.aU (α:=Nat × Nat × Nat) [(0,_),(1,_),(6,_),(7,_),(8,_)] [(67,_)] (λ(i,b2,c2)=>[(10,.d (dI i)),(9,.bH 57 b2 (s*i) c2)]) (λ(i,b2,c2)=>[(57,.row b2 c2 T.ints 1 ((((pO s q).take i).flatMap (dh s)).map ints))]) (λ(i,b2,c2)=>i<=(pO s q).length) (λ(i,b2,c2)=>(pO s q).length-i) (0,0,0) (.cons (bY rfl) (.cons (bY rfl) (.cons (yO rfl) (.cons (bY rfl) (.cons (bY rfl) .nil))))) (.cons (rY rfl) .nil) ⟨Nat.zero_le _,.cons vR (.cons (by rw[Nat.mul_zero];exact bG.refl _) .nil),.cons rfl .nil⟩ ?_
  rintro⟨i,b2,c2⟩ h2
  have h2:i<=(pO s q).length:=h2;have hsi:s*i<=s*(pO s q).length:=Nat.mul_le_mul_left _ h2;have hnl:(((pO s q).take i).flatMap (dh s)).length=s*i:=by rw[Ji,List.length_take,Nat.min_eq_left h2]
  refine AW.seq (AW.sg hE rfl (ai rfl (ai rfl (fJ (f:=ints) sl.dX rfl rfl (aX rfl rfl rfl (OL.nil (AW.cond rfl (λh38=>?_) (λh38=>?_))))))))
  .try simp only[eG] at h38
   refine AW.skip (AW.seq (AW.block (AW.sg hE rfl (aC rfl (OL.nil (AW.block ?_))))));refine AW.aU (α:=Nat × Nat × Nat) [(0,_),(1,_),(6,_),(7,_),(8,_),(10,_)] [(67,_)] (λ(j,b3,c3)=>[(11,.d (dI ((j+1:Nat):Int))),(9,.bH 57 b3 (s*i+j) c3)]) (λ(j,b3,c3)=>[(57,.row b3 c3 T.ints 1 (((((pO s q).take i).flatMap (dh s))++(dh s ((pO s q).getD i [])).take j).map ints))]) (λ(j,b3,c3)=>j<=s) (λ(j,b3,c3)=>s-j) (0,b2,c2) (.cons (bY rfl) (.cons (bY rfl) (.cons (yO rfl) (.cons (bY rfl) (.cons (bY rfl) (.cons (bY rfl) .nil)))))) (.cons (rY rfl) .nil) ⟨Nat.zero_le _,.gy,.cons (by rw[List.take_zero,List.append_nil (((pO s q).take i).flatMap (dh s))];rfl) .nil⟩ ?_
   rintro⟨j,b3,c3⟩ h3
   have h3:j<=s:=h3;have hi:i<(pO s q).length:=by omega
   have bj2:s*(i+1)<=s*(pO s q).length:=Nat.mul_le_mul_left _ hi;rw[Nat.mul_succ] at bj2;have hkl:((dh s ((pO s q).getD i [])).take j).length=j:=by rw[List.length_take,wz];omega
   have hll:=(zh.1 (getD_mem hi [])).2;refine AW.seq (AW.sg hE rfl (ai rfl (ai rfl (wZ rfl rfl rfl (OL.nil (AW.cond rfl (λhj=>?_) (λhj=>?_)))))))
   .have hj:j<s:=by have:=kK hj;omega
    refine AW.skip (AW.seq (AW.block (AW.rg hE rfl (gU rfl (lt0 sl.ints (ai rfl (ai rfl ?_)))))));refine fM (f:=ints) sl.dX [] rfl rfl (by omega) rfl rfl (iE ce.ints rfl (apM sl.ints rfl rfl (VC.d _) VO (by rw[dD];omega) (by rw[dD];omega) rfl λb52 c52=>(ai rfl (xe (y:=dI ((j+1:Nat):Int)) sl.ints (VC.d _).vd rfl (by decide) ?_))))
    refine ad2 sl.ints rfl rfl rfl rfl (VC.d _) (λy hy=>by rw[kJ hy];rfl) (by simp only[jL,dD];omega) (by simp only[jL,dD];omega) (.inl rfl) (ys:=(((pO s q).getD i [])++[((j+1:Nat):Int)]).map dI) (by rw[List.map_append];rfl) ?_
    refine xe (y:=ints (((pO s q).getD i [])++[((j+1:Nat):Int)])) sl.dX (VC.d _).vd rfl (by decide) ?_
    refine zB sl.dX rfl rfl rfl (by rw[dD,iU,hnl,hkl]) (VC.d _) (λy hy=>by rw[kJ hy];rfl) (by simp only[jL];omega) (by simp only[jL];omega) (.inr rfl) (ys:=((((pO s q).take i).flatMap (dh s))++(dh s ((pO s q).getD i [])).take (j+1)).map ints) (by rw[Qd hj,<- List.append_assoc,List.map_append (l₂:=[_])];rfl) (n2:=s*i+(j+1)) rfl λb57 c57=>?_
    refine oC rfl (OL.nil (AW.rg hE rfl (ai rfl (bo rfl rfl (kM (c:=((j+1+1:Nat):Int)) (by omega) (wrap_i64 (by omega))) (aC rfl (OL.nil ?_))))))
    exact AW.again (x:=(j,b3,c3)) (j+1,b57,c57) (by (simp only[];omega)) ⟨by omega,Knows.app .Vh .gy,dw.app (.cons rfl .nil) (.cons rfl .nil)⟩
   .have hj:¬ j<s:=by have:=lD hj;omega
    obtain rfl:s=j:=by omega
    have hall:(dh s ((pO s q).getD i [])).take s=dh s ((pO s q).getD i []):=List.take_of_length_le (by rw[wz];exact Nat.le_refl _)
    have a19:=ug (k:=s) hi;rw[<- hall] at a19;refine AW.exit (AW.rg hE rfl (ai rfl (aH rfl rfl (by omega) (aC rfl (OL.nil ?_)))))
    exact AW.again (x:=(i,b2,c2)) (i+1,b3,c3) (by (simp only[];omega)) ⟨by omega,Knows.app .Gs (.cons vR (.cons (by rw[Nat.mul_succ];exact bG.bH) .nil)),dw.app (.cons rfl .nil) (.cons (by rw[a19];rfl) .nil)⟩
  .try simp only[eG] at h38
   refine AW.exit (AW.seq (AW.seq ?_));obtain rfl:i=(pO s q).length:=by omega
   refine AW.rg hE rfl (gU rfl (Iy sl.dX rfl rfl (gU rfl (Iy sl.dX rfl rfl (bo rfl rfl (kM (c:=(((ah s q).length+s*(pO s q).length:Nat):Int)) (by omega) (wrap_i64 (by omega))) (gV rfl rfl rfl (OL.nil ?_)))))))
   refine AW.cond rfl (λhno=>absurd hno (by simp;omega)) (λ_=>?_)
   refine AW.skip (AW.seq ?_);have hlf:(((pO s q).take (pO s q).length).flatMap (dh s))=pO s (q+1):=by rw[List.take_length];rfl
   refine AW.freeze 57 rfl (AW.to [(9,.d (tZ (pO s (q+1)))),(0,_),(1,_),(6,_),(8,_)] [(67,_)] (.cons (eH (by rw[dD,hlf];omega) (by rw[hlf])) .GL) (.cons rfl .nil) ?_)
   refine AW.rg hE rfl (ai rfl (aC rfl (OL.nil (AW.rg hE rfl (gU rfl (ai rfl ?_))))));refine zB sl.dX rfl rfl rfl (by rw[dD]) (VC.d _) ZC (by rw[dD];omega) (by rw[dD];omega) (.inr rfl) (ys:=(ah s (q+1)).map ints) (by rw[ah,List.map_append]) (n2:=(ah s (q+1)).length) (by rw[ah,dD,iU]) λb67 c67=>?_
   exact oC rfl (OL.nil (AW.rg hE rfl (ai rfl (bo rfl rfl (kM (c:=((q+1+1:Nat):Int)) (by omega) (wrap_i64 (by omega))) (aC rfl (OL.nil (AW.again (x:=(q,b,c)) (q+1,b67,c67) (by (simp only[];omega)) ⟨by omega,Knows.app .gy .xf,.cons rfl .nil⟩)))))))
 .have hq:¬ q<n:=by have:=lD hq;omega
  obtain rfl:n=q:=by omega
  refine AW.exit (AW.seq (AW.freeze 67 rfl (AW.to [(6,.d (tZ (ah s n)))] [] (.cons (eH (by rw[dD]) rfl) .nil) .nil ?_)))
  exact AW.rg hE rfl (ai rfl (aC rfl (aC rfl (OL.nil (AW.ret (aO.r ⟨_,.tmp rfl (.tmp rfl .nil),_,.cons (.le vR) (.cons (.le vR) .nil),rfl⟩))))))
theorem Ew {L:List Int}{a b:Nat}(nL:L.length<=9223372036854775807):eF P F.xU [.d (dI 1),.ptr 1000 b 0] (mem1 1000 (o8 b L a)) (vW (zk L a)) (mem1 1000 (o8 b L (vz L a))):=by
 have t1:=kT (L:=L) (a:=a) (m:=9) (by decide)
 have t2:=kT (L:=L) (a:=jl L a) (m:=3) (by decide)
 refine eF.intro fn.xU (by rfl) (by rfl) (aA (by rfl)) λE hE=>(AW.sg hE rfl (al z.ak rfl λb4=>(OL.nil (AW.seq (AW.sg hE rfl (ai rfl (OL.nil ?_)))))))
 refine AW.block (AW.sg hE rfl (dG rfl rfl (c:=false) (decide_eq_false (by decide)) (aC rfl (OL.nil (oz rfl ?_)))))
 refine AW.sg hE rfl (dG rfl rfl (c:=false) (decide_eq_false (by decide)) (aC rfl (OL.nil (oz rfl ?_))))
 refine AW.skip (AW.sg hE rfl (DL rfl (OL.rV (v:=.d (dI (vG L a 9))) (.mk (args':=[.ptr 1000 b 0,.d (dI 9)]) rfl (.cons vR (.cons vR (.nil))) (bP (id:=1000) (blk:=o8 b L a) rfl) iK (wB (by decide) nL)) (bo rfl rfl (nN (c:=vG L a 9-4) rfl (wrap_i64 (by omega))) (DL rfl (OL.rV (v:=.d (dI (vG L (jl L a) 3))) (.mk (args':=[.ptr 1000 b 0,.d (dI 3)]) rfl (.cons vR (.cons vR (.nil))) (bP (id:=1000) (blk:=o8 b L (jl L a)) rfl) iK (wB (by decide) nL)) (bo rfl rfl (kM (c:=1+vG L (jl L a) 3) rfl (wrap_i64 (by omega))) ?_)))))))
 refine bF rfl .gy (TA (by omega) (by omega) (by omega)) (yu rfl (ex rfl rfl (ex rfl rfl (al z.Rat rfl λb7=>(fG sz.Rat rfl rfl rfl rfl rfl (aA rfl) (cells2:=[_,_,_]) rfl (aC rfl (OL.nil ?_)))))))
 exact AW.sg hE rfl (aN ag.Rat rfl rfl (vs:=[_,_,_]) rfl (aA rfl) (bd z.ak pl.ak (cs:=[_,_,_,_,_,_,_,_]) rfl (fG sz.ak rfl rfl rfl rfl rfl (aA rfl) (cells2:=[_,_,_,_,_,_,_,_]) rfl (OL.nil (AW.ret ⟨⟨_,.dL rfl rfl ag.ak (aA rfl) .nil,.le (IX)⟩,bP rfl⟩)))))
theorem Dx {n:Int}(hn:-4611686018427387904<=n/\n<=4611686018427387904):aj P F.zU [.d (dI n)] (vQ (n:Rat)):=by
 refine aj.intro fn.zU (by rfl) (by rfl) (aA (by rfl)) λE hE=>(AW.sg hE rfl (al z.Rat rfl λb2=>(OL.nil (AW.sg hE rfl (ai rfl (bF rfl .gy (TA (by omega) (by decide) (by decide)) ?_))))))
 rw[aE8];refine yu rfl (ex rfl rfl (ex rfl rfl (al z.Rat rfl λb3=>(fG sz.Rat rfl rfl rfl rfl rfl (aA rfl) (cells2:=[_,_,_]) rfl (aC rfl (OL.nil (AW.sg hE rfl ?_)))))));exact aN ag.Rat rfl rfl (vs:=[_,_,_]) rfl (aA rfl) (fG sz.Rat rfl rfl rfl rfl rfl (aA rfl) (cells2:=[_,_,_]) rfl (OL.nil (AW.ret (aO.r ⟨_,.dL rfl rfl ag.Rat (aA rfl) .nil,.ag (.cons (.le vR) (.cons (.le vR) (.cons (.le vR) .nil)))⟩))))
theorem aF0 {a:Au}{n:Nat}(hs:1<=a.sym/\a.sym<=32)(hm:n<=256)(hb:(ah a.sym n).length<=4000)(hw:∀ w,w ∈ ah a.sym n->aj P F.qR [zG a,.d (ints w)] (.jE [vW (jm a w),.d (dI 0)])):iR P F.xR [zG a,.d (dI n)] (ah a.sym n).length T.Rat 3 (((ah a.sym n).map (λw=>jm a w)).map dQ):=by
 refine iR.intro fn.xR (by rfl) (by rfl) (aA (by rfl)) 4 rfl λE hE=>(AW.sg hE rfl (gW rfl rfl λb2=>(jg rfl (OL.nil (AW.sg hE rfl (aV fd.rO rfl rfl (aG ce.int rfl rfl rfl ?_)))))))
 refine ai rfl (bF rfl vL (ap5 hs hm hb) (yu rfl (ex rfl rfl (ex rfl rfl (aC rfl (aC rfl (OL.nil ?_)))))));refine AW.sg hE rfl (jg rfl (OL.nil (AW.seq (AW.seq (AW.own 7 37 T.Rat 3 rfl rfl (AW.rg hE rfl (aC rfl ?_)))))));refine OL.nil (AW.block ?_);refine AW.aU (α:=Nat × Nat × Nat) [(2,_),(4,_),(5,_)] [(2,_)] (λ(i,bq,cq)=>[(7,.bH 37 bq i cq),(8,.d (dI i))]) (λ(i,bq,cq)=>[(37,.row bq cq T.Rat 3 ((((ah a.sym n).map (λw=>jm a w)).take i).map dQ))]) (λ(i,bq,cq)=>i<=(ah a.sym n).length) (λ(i,bq,cq)=>(ah a.sym n).length-i) (0,0,0) (.cons (iJ rfl) (.cons (AO rfl) (.cons (bY rfl) .nil))) (.cons (kC rfl) .nil) ⟨Nat.zero_le _,.gy,.cons rfl .nil⟩ ?_
 rintro⟨i,bq,cq⟩ h1
 have h1:i<=(ah a.sym n).length:=h1;refine AW.seq (AW.sg hE rfl (ai rfl (ai rfl (fJ (f:=ints) sl.dX rfl rfl (aX rfl rfl rfl (OL.nil (AW.cond rfl (λh21=>?_) (λh21=>?_))))))))
 .try simp only[eG] at h21
  refine AW.skip (AW.seq (AW.block (AW.seq ?_)));have hi:i<(ah a.sym n).length:=by omega
  have hm9:=getD_mem hi [];refine AW.dg 1 [0,1,2,3,4,5,6,7,8,9,10,11] au hE rfl (by kernel_rfl) (OI.aS (os:=[_,_,_,_,_,_,_,_,_,_,_,_]) rfl ?_)
  refine aN ag.Auto rfl rfl (vs:=[_,_,_,_,_,_,_]) rfl (aA rfl) (ai rfl (ai rfl (fM (f:=ints) sl.dX [] rfl rfl hi rfl rfl (iE ce.ints rfl (bF rfl vL (hw _ hm9) (yu rfl (ex rfl rfl ?_)))))));refine ex rfl rfl (al z.ak rfl λb9=>(fG sz.ak rfl rfl rfl rfl rfl (aA rfl) (cells2:=[_,_,_,_,_,_,_,_]) rfl (aC rfl (OL.nil (AW.rg hE rfl (gU rfl (aV fd.gK rfl rfl ?_)))))));refine aN ag.Rat rfl rfl (vs:=[_,_,_]) rfl (aA rfl) (xe (y:=dQ (jm a ((ah a.sym n).getD i []))) sl.bT yP rfl (by decide) ?_)
  refine zB sl.bT rfl rfl rfl (by rw[dD,List.length_take,dD];omega) (VC.d _) (λy hy=>by rw[kJ hy];rfl) (by simp only[jL];omega) (by simp only[jL];omega) (.inr rfl) (ys:=(((ah a.sym n).map (λw=>jm a w)).take (i+1)).map dQ) (by rw[oZ 0 (by rw[dD];exact hi),List.map_append,aE9 hi];rfl) (n2:=i+1) rfl λb37 c37=>?_
  exact oC rfl (OL.nil (AW.rg hE rfl (ai rfl (aH rfl rfl (by omega) (aC rfl (OL.nil (AW.again (x:=(i,bq,cq)) (i+1,b37,c37) (by (simp only[];omega)) ⟨by omega,Knows.app .xf .gy,dw.app (.cons rfl .nil) (.cons rfl .nil)⟩)))))))
 .try simp only[eG] at h21
  refine AW.exit (AW.seq ?_);obtain rfl:i=(ah a.sym n).length:=by omega
  have hfull:((ah a.sym n).map (λw=>jm a w)).take (ah a.sym n).length=((ah a.sym n).map (λw=>jm a w)):=List.take_of_length_le (by rw[dD];exact Nat.le_refl _)
  refine AW.rg hE rfl (gU rfl (oC rfl (OL.nil ?_)));exact AW.ret ⟨.inr rfl,37,bq,cq,(((ah a.sym n).map (λw=>jm a w)).take (ah a.sym n).length).map dQ,rfl,rfl,by rw[dD,List.length_take,dD];omega,by rw[hfull];exact List.take_of_length_le (by rw[dD,dD];exact Nat.le_refl _)⟩

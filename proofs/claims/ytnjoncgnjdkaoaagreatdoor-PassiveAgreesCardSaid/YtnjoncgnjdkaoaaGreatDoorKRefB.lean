/-
  Walks of the reference's numbers, part 2: division (printed by mk2.py).
-/
import Derived.Test.YtnjoncgnjdkaoaaGreatDoorKRatB
set_option linter.unusedVariables false
set_option linter.unusedSimpArgs false
namespace Go.Proofs.YtnjoncgnjdkaoaaGreatDoor
open Go Go.AL
theorem Eh {L:List Nat}(hL:jb L)(hn:L.length<=8796093022208):aj P F.C9 [.d (aH L)] (.d (aH (lim (val L)))):=by
 refine aj.intro fn.C9 (by rfl) (by rfl) (aB (by rfl)) λE hE=>(AW.sg hE rfl (oK rfl (OL.nil (AW.seq (AW.block (AW.aV (α:=List Nat) [(2,_)] [] (λA=>[(0,.d (aH A))]) (λA=>[]) (λA=>jb A/\val A=val L/\A.length<=L.length) (λA=>A.length) L (.cons (Ea rfl) .nil) .nil ⟨⟨hL,rfl,Nat.le_refl _⟩,.bZ,.nil⟩ ?_))))))
 rintro A ⟨hA,hv,hl⟩
 refine AW.seq (AW.sg hE rfl (ai rfl (fJ sl.aH rfl rfl (iO rfl rfl rfl (ai rfl (OL.split 6 rfl (λg6=>?_) (λg6=>?_)))))))
 .try simp only[dX] at g6
  refine OL.yes rfl (ai rfl (OL.yes rfl (ai rfl (OL.yes rfl (fJ sl.aH rfl rfl (OL.yes rfl (gI rfl rfl (by omega) ?_)))))))
  refine OL.yes rfl (ixL sl.aH 0 rfl rfl (by omega) (by omega) rfl rfl (OL.yes rfl (iH ce.u32 rfl (OL.yes rfl (dR rfl rfl rfl (oC rfl rfl (OL.nil ?_)))))))
  refine AW.cond rfl (λBf=>?_) (λBf=>?_)
  .try simp only[dX] at Bf
   refine AW.skip (AW.block (AW.rg hE rfl (ai rfl (ai rfl (fJ sl.aH rfl rfl (gI rfl rfl (by omega) (ae0 sl.aH rfl rfl (λ_=>rfl) (by omega) (l2:=A.dropLast) (by rw[List.dropLast_eq_take];congr 1;omega) ?_)))))))
   refine aF rfl (OL.nil ?_);exact AW.again (x:=A) A.dropLast (by rw[List.length_dropLast];omega) ⟨⟨hA.dropLast,by rw[<- hv,G8 (by omega) (by rw[y7] at Bf;omega)],by rw[List.length_dropLast];omega⟩,Knows.app .bZ .bZ,.nil⟩
  .try simp only[dX] at Bf
   exact AW.exit (AW.sg hE rfl (ai rfl (aF rfl (OL.nil (AW.ret (aP.r ⟨_,.tmp rfl .nil,.le (au (by rw[<- hv,QO hA (Xz (by omega) (by rw[y7] at Bf;omega))];rfl))⟩))))))
 .try simp only[dX] at g6
  refine OL.nd rfl (OL.nd rfl (OL.nd rfl (OL.nd rfl (OL.nd rfl (OL.nd rfl (OL.nd rfl (kL rfl rfl ?_)))))));refine OL.nil (qW rfl ?_);exact AW.exit (AW.sg hE rfl (ai rfl (aF rfl (OL.nil (AW.ret (aP.r ⟨_,.tmp rfl .nil,.le (au (by rw[<- hv,ae4 (L:=A) (by omega),je,dY];rfl))⟩))))))
theorem JI {v:Nat}(hv:v<18446744073709551616):aj P F.xw [.d (dU v)] (.d (aH (lim v))):=by
 refine aj.intro fn.xw (by rfl) (by rfl) (aB (by rfl)) λE hE=>(AW.sg hE rfl (oK rfl (OL.nil (AW.sg hE rfl (ai rfl (cv it.u64 it.u32 rfl (c:=((v % 4294967296:Nat):Int)) (by rw[gG];omega) (ai rfl ?_)))))))
 refine Jy rfl rfl rfl (cv it.u64 it.u32 rfl (c:=((v / 4294967296:Nat):Int)) (by rw[gG];omega) (lt2 sl.aH (VC.d _).vd (VC.d _).vd ⟨rfl,rfl⟩ (by decide) (cl (Eh (L:=[v % 4294967296,v / 4294967296]) (.cons (by omega) (.cons (by omega) .nil)) (by simp)) rfl vL ?_)))
 rw[show val [v % 4294967296,v / 4294967296]=v by simp only[jf,je];omega]
 exact aF rfl (OL.nil (AW.ret (aP.r ⟨_,.tmp rfl .nil,.le vR⟩)))
theorem TK {v:Int}:aj P F.Df [.d (dI v)] (.d (dI (Tq v))):=by
 refine aj.intro fn.Df (by rfl) (by rfl) (aB (by rfl)) λE hE=>(AW.sg hE rfl (aF rfl (OL.nil (AW.seq (AW.block (AW.sg hE rfl (ai rfl ?_)))))))
 refine aY rfl rfl rfl (aF rfl (OL.nil (AW.cond rfl (λh3=>?_) (λh3=>?_))))
 .try simp only[dX] at h3
  exact AW.sg hE rfl (aF rfl (OL.nil (AW.ret (aP.r ⟨_,.tmp rfl .nil,.le (bG.int (by unfold Tq;rw[if_pos h3]))⟩))))
 .try simp only[dX] at h3
  refine AW.sg hE rfl (ai rfl (iO rfl rfl rfl (aF rfl (OL.nil (AW.cond rfl (λh6=>?_) (λh6=>?_))))))
  .try simp only[dX] at h6
   exact AW.sg hE rfl (aF rfl (OL.nil (AW.ret (aP.r ⟨_,.tmp rfl .nil,.le (bG.int (by unfold Tq;rw[if_neg h3,if_pos h6]))⟩))))
  .try simp only[dX] at h6
   exact AW.skip (AW.sg hE rfl (aF rfl (OL.nil (AW.ret (aP.r ⟨_,.tmp rfl .nil,.le (bG.int (by unfold Tq;rw[if_neg h3,if_neg h6]))⟩)))))
theorem JJ {a b:Nat}(na:(lim a).length<=8796093022208)(nb:(lim b).length<=8796093022208):aj P F.xh [.d (aH (lim a)),.d (aH (lim b))] (.d (dI (DU a b))):=by
 refine aj.intro fn.xh (by rfl) (by rfl) (aB (by rfl)) λE hE=>(AW.sg hE rfl (aF rfl (OL.nil (AW.seq (AW.sg hE rfl (ai rfl (fJ sl.aH rfl rfl ?_)))))))
 refine ai rfl (fJ sl.aH rfl rfl (eG rfl rfl rfl (OL.nil (AW.cond rfl (λh10=>?_) (λh10=>?_)))))
 .try simp only[dX] at h10
  refine AW.sg hE rfl (ai rfl (fJ sl.aH rfl rfl (ai rfl (fJ sl.aH rfl rfl (gI rfl rfl (by omega) (bJ rfl .bZ (TK) (aF rfl ?_)))))))
  exact OL.nil (AW.ret (aP.r ⟨_,.tmp rfl .nil,.le (au (by rw[ay9 (by omega)];rfl))⟩))
 .try simp only[dX] at h10
  refine AW.skip (AW.seq (AW.sg hE rfl (ai rfl (fJ sl.aH rfl rfl (gI rfl rfl (by omega) (aF rfl (OL.nil ?_)))))))
  refine AW.block ?_;refine AW.aV (α:=Nat) [(0,_),(1,_)] [] (λn=>[(5,.d (dI ((n:Int)-1)))]) (λn=>[]) (λn=>n<=(lim a).length/\∀ j,n<=j->(lim a).getD j 0=(lim b).getD j 0) (λn=>n) (lim a).length (.cons (bK rfl) (.cons (bK rfl) .nil)) .nil ⟨⟨Nat.le_refl _,λj hj=>by rw[y5 (by omega),y5 (by omega)]⟩,.bZ,.nil⟩ ?_
  rintro n ⟨hn,hh⟩
  refine AW.seq (AW.sg hE rfl (ai rfl (qY rfl rfl rfl (OL.nil (AW.cond rfl (λh=>?_) (λh=>?_))))))
  .have h:=lq h;have e1:((n:Int)-1).toNat=n-1:=by omega
   have hx:=(bn a).getD (n-1);have hy:=(bn b).getD (n-1);refine AW.skip (AW.seq (AW.block (AW.seq (AW.dg 1 [0,1,2,3,4,5,6,7,8] ay hE rfl (by kernel_rfl) (OI.aK (os:=[_,_,_,_,_,_,_,_,_]) rfl ?_)))))
   refine ai rfl (ai rfl (LJ (n-1) sl.aH 0 rfl rfl (by omega) (by omega) rfl rfl (iH ce.u32 rfl (ai rfl (ai rfl (LJ (n-1) sl.aH 0 rfl rfl (by omega) (by omega) rfl rfl (iH ce.u32 rfl ?_)))))))
   refine eG rfl rfl rfl (OL.nil (AW.cond rfl (λhne=>?_) (λhne=>?_)))
   .have hne:(lim a).getD (n-1) 0≠(lim b).getD (n-1) 0:=by have:=D7 hne;omega
    refine AW.seq (AW.dg 1 [0,1,2,3,4,5,6,7,8,9,10,11,12] ay hE rfl (by kernel_rfl) (OI.aK (os:=[_,_,_,_,_,_,_,_,_,_,_,_,_]) rfl ?_))
    refine ai rfl (ai rfl (LJ (n-1) sl.aH 0 rfl rfl (by omega) (by omega) rfl rfl (iH ce.u32 rfl (cv it.u32 it.int rfl (wrap_i64 (by omega)) (ai rfl (ai rfl (LJ (n-1) sl.aH 0 rfl rfl (by omega) (by omega) rfl rfl ?_)))))))
    exact iH ce.u32 rfl (cv it.u32 it.int rfl (wrap_i64 (by omega)) (gI rfl rfl (by omega) (bJ rfl .bZ (TK) (aF rfl (OL.nil (AW.ret (aP.r ⟨_,.tmp rfl .nil,.le (bG.int (by rw[az0 (ae5 (bn a) (bn b) (i:=n-1) (λj hj=>hh j (by omega)) hne) hne,bC,bC]))⟩)))))))
   .have hne:(lim a).getD (n-1) 0=(lim b).getD (n-1) 0:=by have:=Bc hne;omega
    refine AW.skip (AW.rg hE rfl (ai rfl (gI rfl rfl (by omega) (aF rfl (OL.nil ?_)))))
    exact AW.again (x:=n) (n-1) (by omega) ⟨⟨by omega,λj hj=>by rcases Nat.lt_or_ge j n with hj2|hj2;(have:j=n-1:=by omega);rw[this];omega;exact hh j hj2⟩,Knows.app .iq (.cons (bG.int (by omega)) .nil),.nil⟩
  .have h:=nS h;exact AW.exit (AW.sg hE rfl (aF rfl (OL.nil (AW.ret (aP.r ⟨_,.tmp rfl .nil,.le (bG.int (by have h:=OQ (bn a) (bn b) λj=>hh j (by omega);rw[bC,bC] at h;subst h;simp[DU]))⟩)))))
theorem Hu {L:List Nat}{i:Nat}(hL:jb L):aj P F.Dc [.d (aH L),.d (dI i)] (.d (dU (L.getD i 0))):=by
 refine aj.intro fn.Dc (by rfl) (by rfl) (aB (by rfl)) λE hE=>(AW.sg hE rfl (aF rfl (OL.nil (AW.seq (AW.sg hE rfl (ai rfl (ai rfl ?_)))))))
 refine fJ sl.aH rfl rfl (qY rfl rfl rfl (OL.nil (AW.cond rfl (λh8=>?_) (λh8=>?_))))
 .try simp only[dX] at h8
  exact AW.sg hE rfl (aF rfl (OL.nil (AW.ret (aP.r ⟨_,.tmp rfl .nil,.le (bG.int (by rw[y5 (by omega)];rfl))⟩))))
 .try simp only[dX] at h8
  refine AW.skip (AW.sg hE rfl (ai rfl (ai rfl (fO sl.aH 0 rfl rfl (by omega) rfl rfl (iH ce.u32 rfl (cv it.u32 it.u64 rfl (wrap_u64 ⟨by omega,by have:=hL.getD i;omega⟩) (aF rfl ?_)))))))
  exact OL.nil (AW.ret (aP.r ⟨_,.tmp rfl .nil,.le vR⟩))
theorem ah4 {A C:List Nat}(hA:jb A)(hC:jb C)(nA:A.length<=4398046511104)(nC:C.length<=4398046511104):aj P F.y9 [.d (aH A),.d (aH C)] (.d (aH (lim (val A+val C)))):=by
 refine aj.intro fn.y9 (by rfl) (by rfl) (aB (by rfl)) λE hE=>(AW.sg hE rfl (oK rfl (OL.nil (AW.sg hE rfl (oK rfl (OL.nil (AW.sg hE rfl ?_)))))))
 refine aF rfl (OL.nil (AW.seq (AW.sg hE rfl (aF rfl (OL.nil (AW.own 5 31 T.u32 1 rfl rfl (AW.block ?_)))))));refine AW.aV (α:=Nat × List Nat × Nat × Nat × Nat) [(0,_),(1,_),(4,_)] [] (λ(i,out,sum,b,c)=>[(5,.bF 31 b out.length c),(6,.d (dU sum)),(7,.d (dI i))]) (λ(i,out,sum,b,c)=>[(31,.row b c T.u32 1 (out.map zY))]) (λ(i,out,sum,b,c)=>out.length=i/\jb out/\val out+Bp i*sum=val (A.take i)+val (C.take i)/\sum<=1/\i<=max A.length C.length+1) (λ(i,out,sum,b,c)=>max A.length C.length+1-i) (0,[],0,0,0) (.cons (bK rfl) (.cons (bK rfl) (.cons (Ea rfl) .nil))) .nil ⟨⟨rfl,jb.nil,rfl,by omega,by omega⟩,.Ah,.cons rfl .nil⟩ ?_
 rintro⟨i,out,sum,b,c⟩ ⟨h1,hO,h2,h3,h4⟩
 refine AW.seq (AW.sg hE rfl (ai rfl (ai rfl (fJ sl.aH rfl rfl (ai rfl (fJ sl.aH rfl rfl (mx rfl rfl (c:=((max A.length C.length:Nat):Int)) (by omega) ?_)))))))
 refine xN rfl rfl rfl (OL.nil (AW.cond rfl (λh15=>?_) (λh15=>?_)))
 .try simp only[dX] at h15
  refine AW.skip (AW.seq (AW.block (AW.seq ?_)));have hx:=hA.getD i;have hy:=hC.getD i;refine AW.rg hE rfl (ai rfl (ai rfl (bJ rfl .iq (Hu (by assumption)) (ai rfl (ai rfl (bJ rfl .iq (Hu (by assumption)) (xg rfl rfl (by omega) ?_)))))))
  refine ai rfl (xg rfl rfl (by omega) (aF rfl (OL.nil (AW.rg hE rfl (jq rfl (ai rfl (cv it.u64 it.u32 rfl (c:=(((sum+(A.getD i 0+C.getD i 0)) % 4294967296:Nat):Int)) (by rw[gG];omega) ?_)))))))
  refine zX sl.aH (VC.d _).vd rfl (by decide) ?_
  refine Ce sl.aH rfl rfl rfl (by simp) (VC.d _) (by simp[D.cells]) (by simp;omega) (by simp;omega) (.inr rfl) (ys:=(out++[(sum+(A.getD i 0+C.getD i 0)) % 4294967296]).map zY) (by simp) (n2:=(out++[(sum+(A.getD i 0+C.getD i 0)) % 4294967296]).length) (by simp) λb2 c2=>?_
  refine ai rfl (Jy rfl rfl rfl (tJ rfl (aF rfl (OL.nil (AW.rg hE rfl (ai rfl (aI rfl rfl (by omega) ?_)))))))
  refine aF rfl (OL.nil ?_);exact AW.again (x:=(i,out,sum,b,c)) (i+1,out++[(sum+(A.getD i 0+C.getD i 0)) % 4294967296],(sum+(A.getD i 0+C.getD i 0)) / 4294967296,b2,c2) (by (simp only[];omega)) ⟨⟨by simp[h1],hO.append (.cons (Nat.mod_lt _ (by decide)) .nil),by rw[yX,h1,fF hA,fF hC];exact OU h2,by omega,by omega⟩,Knows.app .Ah (.cons vR (.cons (bG.int (by omega)) .bZ)),.cons rfl .nil⟩
 .try simp only[dX] at h15
  refine AW.exit (AW.seq ?_);have hv:val out=val A+val C:=ag2 hA hC (by omega) h1 h2
  refine AW.freeze 31 rfl (AW.to [(5,.d (aH out))] [] (.cons (dL (by simp) rfl) .nil) .nil ?_)
  exact AW.rg hE rfl (ai rfl (bJ rfl .bZ (Eh (by assumption) (by omega)) (aF rfl (OL.nil (AW.ret (aP.r ⟨_,.tmp rfl .nil,.le (au (by rw[<- hv];rfl))⟩))))))
theorem Zh {A C:List Nat}(hA:jb A)(hC:jb C)(nA:A.length<=8796093022208)(hle:val C<=val A):aj P F.xU [.d (aH A),.d (aH C)] (.d (aH (lim (val A-val C)))):=by
 refine aj.intro fn.xU (by rfl) (by rfl) (aB (by rfl)) λE hE=>(AW.sg hE rfl (oK rfl (OL.nil (AW.sg hE rfl (oK rfl (OL.nil (AW.sg hE rfl ?_)))))))
 refine aF rfl (OL.nil (AW.seq (AW.sg hE rfl (aF rfl (OL.nil (AW.own 5 29 T.u32 1 rfl rfl (AW.block ?_)))))));refine AW.aV (α:=Nat × List Nat × Nat × Nat × Nat) [(0,_),(1,_),(4,_)] [] (λ(i,out,less,b,c)=>[(5,.bF 29 b out.length c),(6,.d (dU less)),(7,.d (dI i))]) (λ(i,out,less,b,c)=>[(29,.row b c T.u32 1 (out.map zY))]) (λ(i,out,less,b,c)=>out.length=i/\jb out/\val (A.take i)+less*Bp i=val out+val (C.take i)/\less<=1/\i<=A.length) (λ(i,out,less,b,c)=>A.length-i) (0,[],0,0,0) (.cons (bK rfl) (.cons (bK rfl) (.cons (Ea rfl) .nil))) .nil ⟨⟨rfl,jb.nil,by simp[je],by omega,by omega⟩,.Ah,.cons rfl .nil⟩ ?_
 rintro⟨i,out,less,b,c⟩ ⟨h1,hO,h2,h3,h4⟩
 refine AW.seq (AW.sg hE rfl (ai rfl (ai rfl (fJ sl.aH rfl rfl (aY rfl rfl rfl (OL.nil (AW.cond rfl (λh12=>?_) (λh12=>?_))))))))
 .try simp only[dX] at h12
  refine AW.skip (AW.seq (AW.block (AW.seq ?_)));have hx:=hA.getD i;have hy:=hC.getD i;refine AW.rg hE rfl (ai rfl (ai rfl (bJ rfl .iq (Hu (by assumption)) (xg rfl rfl (by omega) (ai rfl (ai rfl (bJ rfl .iq (Hu (by assumption)) ?_)))))))
  refine Kz rfl rfl (by omega) (ai rfl (Kz rfl rfl (by omega) (aF rfl (OL.nil (AW.rg hE rfl (jq rfl (ai rfl ?_)))))))
  refine cv it.u64 it.u32 rfl (c:=(((A.getD i 0+4294967296-C.getD i 0-less) % 4294967296:Nat):Int)) (by rw[gG];omega) (zX sl.aH (VC.d _).vd rfl (by decide) ?_)
  refine Ce sl.aH rfl rfl rfl (by simp) (VC.d _) (by simp[D.cells]) (by simp;omega) (by simp;omega) (.inr rfl) (ys:=(out++[(A.getD i 0+4294967296-C.getD i 0-less) % 4294967296]).map zY) (by simp) (n2:=(out++[(A.getD i 0+4294967296-C.getD i 0-less) % 4294967296]).length) (by simp) λb2 c2=>?_
  refine ai rfl (Jy rfl rfl rfl (Kz rfl rfl (by omega) (tJ rfl (aF rfl (OL.nil (AW.rg hE rfl (ai rfl ?_)))))))
  refine aI rfl rfl (by omega) (aF rfl (OL.nil ?_))
  exact AW.again (x:=(i,out,less,b,c)) (i+1,out++[(A.getD i 0+4294967296-C.getD i 0-less) % 4294967296],if A.getD i 0<C.getD i 0+less then 1 else 0,b2,c2) (by (simp only[];omega)) ⟨⟨by simp[h1],hO.append (.cons (Nat.mod_lt _ (by decide)) .nil),by rw[fF hA,fF hC,yX,h1];exact Lu h2 hx hy h3,by split <;> omega,by omega⟩,Knows.app .Ah (.cons vR (.cons (bG.int (by split <;> omega)) .bZ)),.cons rfl .nil⟩
 .try simp only[dX] at h12
  refine AW.exit (AW.seq ?_);have hv:val out=val A-val C:=OV hA hO (by omega) hle (by rw[tK (A:=out) (by omega)];rw[show i=A.length by omega] at h2;exact h2) h3 hC
  refine AW.freeze 29 rfl (AW.to [(5,.d (aH out))] [] (.cons (dL (by simp) rfl) .nil) .nil ?_)
  exact AW.rg hE rfl (ai rfl (bJ rfl .bZ (Eh (by assumption) (by omega)) (aF rfl (OL.nil (AW.ret (aP.r ⟨_,.tmp rfl .nil,.le (au (by rw[<- hv];rfl))⟩))))))
theorem Zi {A C:List Nat}(hA:jb A)(hC:jb C)(nA:A.length<=4398046511104)(nC:C.length<=4398046511104):aj P F.xR [.d (aH A),.d (aH C)] (.d (aH (lim (val A*val C)))):=by
 refine aj.intro fn.xR (by rfl) (by rfl) (aB (by rfl)) λE hE=>(AW.sg hE rfl (oK rfl (OL.nil (AW.sg hE rfl (ai rfl (fJ sl.aH rfl rfl (ai rfl ?_)))))))
 refine fJ sl.aH rfl rfl (bo rfl rfl (jB (c:=((A.length+C.length:Nat):Int)) (by omega) (wrap_i64 (by omega))) (QM zY 0 sl.aH z.u32 (.cons (VC.d _) .nil) rfl rfl (Nat.le_refl _) (by omega) (by omega) rfl λb=>(tJ rfl (OL.nil (AW.seq (AW.sg hE rfl (aF rfl ?_)))))))
 refine OL.nil (AW.block ?_);refine AW.aV (α:=Nat × List Nat) [(0,_),(1,_),(4,_)] [] (λ(i,out)=>[(5,.bF 15 b (A.length+C.length) (A.length+C.length)),(6,.d (dI i))]) (λ(i,out)=>[(15,.row b (A.length+C.length) T.u32 1 (out.map zY))]) (λ(i,out)=>out.length=A.length+C.length/\jb out/\val out=val (A.take i)*val C/\i<=A.length/\∀ j,i+C.length<=j->out.getD j 0=0) (λ(i,out)=>A.length-i) (0,List.replicate (A.length+C.length) 0) (.cons (bK rfl) (.cons (bK rfl) (.cons (Ea rfl) .nil))) .nil ⟨⟨by simp,jb.zeros _,by simp[je,EP],by omega,λj _=>V4 _ j⟩,.iq,.cons rfl .nil⟩ ?_
 rintro⟨i,Q5⟩ ⟨h1,hO0,h2,h3,h4⟩
 refine AW.seq (AW.sg hE rfl (ai rfl (ai rfl (fJ sl.aH rfl rfl (aY rfl rfl rfl (OL.nil (AW.cond rfl (λh19=>?_) (λh19=>?_))))))))
 .try simp only[dX] at h19
  refine AW.skip (AW.seq (AW.block (AW.sg hE rfl (aF rfl (OL.nil (AW.seq (AW.sg hE rfl ?_)))))));refine aF rfl (OL.nil (AW.block ?_));refine AW.aV (α:=Nat × List Nat × Nat) [(0,_),(1,_),(4,_),(6,_)] [] (λ(j,out,sum)=>[(5,.bF 15 b (A.length+C.length) (A.length+C.length)),(7,.d (dU sum)),(8,.d (dI j))]) (λ(j,out,sum)=>[(15,.row b (A.length+C.length) T.u32 1 (out.map zY))]) (λ(j,out,sum)=>out.length=A.length+C.length/\jb out/\val out+sum*Bp (i+j)=val (A.take i)*val C+A.getD i 0*Bp i*val (C.take j)/\sum<=4294967295/\j<=C.length/\∀ k,i+C.length<=k->out.getD k 0=0) (λ(j,out,sum)=>C.length-j) (0,Q5,0) (.cons (bK rfl) (.cons (bK rfl) (.cons (Ea rfl) (.cons (bK rfl) .nil)))) .nil ⟨⟨h1,hO0,by simp[je,h2],by omega,by omega,h4⟩,.Ah,.cons rfl .nil⟩ ?_
  rintro⟨j,out,sum⟩ ⟨g1,hO,g2,g3,g4,g6⟩
  refine AW.seq (AW.sg hE rfl (ai rfl (ai rfl (fJ sl.aH rfl rfl (aY rfl rfl rfl (OL.nil (AW.cond rfl (λh25=>?_) (λh25=>?_))))))))
  .try simp only[dX] at h25
   refine AW.skip (AW.seq (AW.block (AW.seq ?_)));have ha:=hA.getD i;have hc2:=hC.getD j;have ho:=hO.getD (i+j);have hp:A.getD i 0*C.getD j 0<=4294967295*4294967295:=Nat.mul_le_mul (by omega) (by omega)
   have st1:val (out.set (i+j) ((sum+(out.getD (i+j) 0+A.getD i 0*C.getD j 0)) % 4294967296))+(sum+(out.getD (i+j) 0+A.getD i 0*C.getD j 0)) / 4294967296*Bp (i+(j+1))=val (A.take i)*val C+A.getD i 0*Bp i*val (C.take (j+1)):=by
    rw[fF hC];exact LC (by omega) g2 rfl
   refine AW.dg 1 [0,1,2,3,4,5,6,7,8,9,10,11,12,13,14,15,16,17,18,19,20,21] ay hE rfl (by kernel_rfl) (OI.aK (os:=[_,_,_,_,_,_,_,_,_,_,_,_,_,_,_,_,_,_,_,_,_,_]) rfl ?_)
   refine ai rfl (ai rfl (fO sl.aH 0 rfl rfl (by omega) rfl rfl (iH ce.u32 rfl (cv it.u32 it.u64 rfl (wrap_u64 (by omega)) (ai rfl (ai rfl (fO sl.aH 0 rfl rfl (by omega) rfl rfl ?_)))))))
   refine iH ce.u32 rfl (cv it.u32 it.u64 rfl (wrap_u64 (by omega)) (bo rfl rfl (KC (c:=((A.getD i 0*C.getD j 0:Nat):Int)) (by rw[Int.natCast_mul]) (wrap_u64 (by omega))) (jq rfl (ai rfl (ai rfl (aI rfl rfl (by omega) (Vu sl.aH rfl rfl (by omega) (by omega) (i:=i+j) (by omega) ?_)))))))
   refine J6 ce.u32 0 (by decide) rfl rfl (by omega) rfl (cv it.u32 it.u64 rfl (wrap_u64 (by omega)) (xg rfl rfl (by omega) (ai rfl (xg rfl rfl (by omega) (aF rfl (OL.nil (AW.rg hE rfl ?_)))))))
   refine jq rfl (ai rfl (ai rfl (aI rfl rfl (by omega) (ai rfl (cv it.u64 it.u32 rfl (c:=(((sum+(out.getD (i+j) 0+A.getD i 0*C.getD j 0)) % 4294967296:Nat):Int)) (by rw[gG];omega) (ai rfl (Jy rfl rfl rfl ?_)))))))
   refine Vu sl.aH rfl rfl (by omega) (by omega) (i:=i+j) (by omega) (GI sz.u32 rfl (VC.d _).vd rfl rfl (by simp;omega) (es2:=(out.set (i+j) ((sum+(out.getD (i+j) 0+A.getD i 0*C.getD j 0)) % 4294967296)).map zY) (by rw[List.map_set]) (aF rfl (OL.nil (AW.rg hE rfl (ai rfl (aI rfl rfl (by omega) (aF rfl ?_)))))))
   refine OL.nil ?_;exact AW.again (x:=(j,out,sum)) (j+1,out.set (i+j) ((sum+(out.getD (i+j) 0+A.getD i 0*C.getD j 0)) % 4294967296),(sum+(out.getD (i+j) 0+A.getD i 0*C.getD j 0)) / 4294967296) (by (simp only[];omega)) ⟨⟨by simp[g1],hO.set _ (Nat.mod_lt _ (by decide)),st1,by omega,by omega,ag3 g6 (by omega)⟩,Knows.app .Jz (.cons vR (.cons (bG.int (by omega)) .bZ)),.cons rfl .nil⟩
  .try simp only[dX] at h25
   refine AW.exit (AW.rg hE rfl (jq rfl (ai rfl (ai rfl (fJ sl.aH rfl rfl (aI rfl rfl (by omega) (ai rfl ?_)))))))
   refine cv it.u64 it.u32 rfl (c:=(sum:Int)) (by rw[gG];omega) (Vu sl.aH rfl rfl (by omega) (by omega) (i:=i+C.length) (by omega) (GI sz.u32 rfl (VC.d _).vd rfl rfl (by simp;omega) (es2:=(out.set (i+C.length) sum).map zY) (by rw[List.map_set]) (OL.nil (AW.rg hE rfl (ai rfl (aI rfl rfl (by omega) (aF rfl ?_)))))))
   refine OL.nil ?_;exact AW.again (x:=(i,Q5)) (i+1,out.set (i+C.length) sum) (by (simp only[];omega)) ⟨⟨by simp[g1],hO.set _ (by omega),az1 hA (by omega) (g6 _ (Nat.le_refl _)) (by rw[show j=C.length by omega] at g2;exact g2),by omega,λk hk=>by rw[Go.AL.getD_set_ne (by omega)];exact g6 k (by omega)⟩,Knows.app .Ah .iq,.cons rfl .nil⟩
 .try simp only[dX] at h19
  refine AW.exit (AW.seq ?_);have hv:val Q5=val A*val C:=by rw[h2,tK (by omega)]
  refine AW.freeze 15 rfl (AW.to [(5,.d (aH Q5))] [] (.cons (dL (by simp[h1]) rfl) .nil) .nil ?_)
  exact AW.rg hE rfl (ai rfl (bJ rfl .bZ (Eh (by assumption) (by omega)) (aF rfl (OL.nil (AW.ret (aP.r ⟨_,.tmp rfl .nil,.le (au (by rw[<- hv];rfl))⟩))))))
theorem IZ {a b:Nat}(na:(lim a).length<=4398046511104)(nb:(lim b).length<=4398046511104):aj P F.y9 [.d (aH (lim a)),.d (aH (lim b))] (.d (aH (lim (a+b)))):=by
 have h:=ah4 (bn a) (bn b) na nb;rw[bC,bC] at h;exact h
theorem Gn {a b:Nat}(na:(lim a).length<=8796093022208)(hle:b<=a):aj P F.xU [.d (aH (lim a)),.d (aH (lim b))] (.d (aH (lim (a-b)))):=by
 have h:=Zh (bn a) (bn b) na (by rw[bC,bC];exact hle)
 rw[bC,bC] at h;exact h
theorem zG {a b:Nat}(na:(lim a).length<=4398046511104)(nb:(lim b).length<=4398046511104):aj P F.xR [.d (aH (lim a)),.d (aH (lim b))] (.d (aH (lim (a*b)))):=by
 have h:=Zi (bn a) (bn b) na nb;rw[bC,bC] at h;exact h
theorem Int.Kq (m:Nat):((2 ^ m:Nat):Int)=2 ^ m:=by rw[Int.natCast_pow];rfl
theorem TL (m:Nat):2 ^ (m % 32)<4294967296:=Nat.pow_lt_pow_right (m:=m % 32) (n:=32) (by decide) (Nat.mod_lt _ (by decide))
theorem aA0 (m:Nat):((2 ^ (m % 32):Nat):Int)<=4294967295:=by have:=TL m;omega
theorem Gp {a b:Nat}(hb:b≠0)(na:(lim a).length<=1099511627776)(nb:(lim b).length<=1099511627776):aj P F.yF [.d (aH (lim a)),.d (aH (lim b))] (.jS [.d (aH (lim (a / b))),.d (aH (lim (a % b)))]):=by
 refine aj.intro fn.yF (by rfl) (by rfl) (aB (by rfl)) λE hE=>(AW.sg hE rfl (oK rfl (oK rfl (OL.nil (AW.sg hE rfl (ai rfl (fJ sl.aH rfl rfl ?_)))))))
 refine QM zY 0 sl.aH z.u32 (.cons (VC.d _) .nil) rfl rfl (Nat.le_refl _) (by omega) (by omega) rfl λb11=>(tJ rfl (OL.nil (AW.sg hE rfl (oK rfl (OL.nil (AW.seq (AW.sg hE rfl ?_)))))))
 refine ai rfl (fJ sl.aH rfl rfl (QK rfl rfl (by omega) (gI rfl rfl (by omega) (aF rfl (OL.nil (AW.block ?_))))))
 refine AW.aV (α:=Nat × List Nat × Nat × Nat) [(0,_),(1,_),(4,_),(5,_)] [] (λ(n,q,r,Q)=>[(6,.bF 11 b11 (lim a).length (lim a).length),(7,.d (aH (lim r))),(8,.d (dI ((n:Int)-1)))]) (λ(n,q,r,Q)=>[(11,.row b11 (lim a).length T.u32 1 (q.map zY))]) (λ(n,q,r,Q)=>q.length=(lim a).length/\jb q/\val q=Q*2 ^ n/\a / 2 ^ n=Q*b+r/\r<b/\n<=32*(lim a).length) (λ(n,q,r,Q)=>n) (32*(lim a).length,List.replicate (lim a).length 0,0,0) (.cons (bK rfl) (.cons (bK rfl) (.cons (Ea rfl) (.cons (Ea rfl) .nil)))) .nil ⟨⟨by simp,jb.zeros _,by rw[EP,Nat.zero_mul],by rw[Zd,Nat.zero_mul],by omega,Nat.le_refl _⟩,.cons vR (.cons (by rw[dY];exact bG.mt) .bZ),.cons rfl .nil⟩ ?_
 rintro⟨n,q,r,Q⟩ ⟨h1,hq,h2,h3,h4,h5⟩
 refine AW.seq (AW.sg hE rfl (ai rfl (qY rfl rfl rfl (OL.nil (AW.cond rfl (λh=>?_) (λh=>?_))))))
 .have h:=lq h;obtain⟨m,rfl⟩:∃ m,n=m+1:=⟨n-1,by omega⟩
  have hmi:((m+1:Nat):Int)-1=(m:Int):=by omega
  have hrl:=sZ (Nat.le_of_lt h4);have ht:a / 2 ^ m % 2<2:=Nat.mod_lt _ (by decide)
  have hds:=ag4 (i:=m) (Nat.pos_of_ne_zero hb) h3 h4;have hr2:=sZ (show r+r+a / 2 ^ m % 2<=b+b by omega)
  have hr3:=sZ (show r+r<=b+b by omega)
  have hbb:=XG b b;refine AW.skip (AW.seq (AW.block (AW.sg hE rfl (ai rfl (ai rfl (bJ rfl .iq (IZ (by omega) (by omega)) (aF rfl ?_)))))))
  refine OL.nil ?_;refine AW.J7 (α:=Unit) [(0,_),(1,_),(4,_),(5,_),(6,_),(8,_)] [(11,_)] (λ_u=>[(7,.d (aH (lim (r+r+a / 2 ^ m % 2))))]) (λ_u=>[]) (λ_u=>True) (.cons (bK rfl) (.cons (bK rfl) (.cons (Ea rfl) (.cons (Ea rfl) (.cons (yj rfl) (.cons (bK rfl) .nil)))))) (.cons (lg rfl) .nil) ?_ ?_
  .refine AW.sg hE rfl (ai rfl (ai rfl (bo rfl rfl (aO2 m 32 hmi (by omega) (by decide)) (fO sl.aH 0 rfl rfl (by omega) rfl rfl (iH ce.u32 rfl (ai rfl (bo rfl rfl (aZ8 m 32 hmi (by decide)) ?_)))))))
   refine cv it.int it.uint rfl (wrap_u64 (by omega)) (Y0 rfl rfl ⟨Int.natCast_nonneg _,by rw[Int.toNat_natCast];have:m % 32<32:=Nat.mod_lt _ (by decide);exact Nat.le_of_lt this⟩ (by rw[Int.toNat_natCast,G6]) (bo rfl rfl (af8 (Nat.lt_of_le_of_lt (Nat.div_le_self ..) ((bn a).getD _))) ?_))
   rw[aO4 (bn a),bC];refine dR rfl rfl rfl (OL.nil (AW.cond rfl (λh33=>?_) (λh33=>?_)))
   .try simp only[dX] at h33
    refine AW.rg hE rfl (ai rfl (zX sl.aH (VC.d _).vd rfl (by decide) (cl (IZ (b:=1) (by omega) (by have:=rQ (g:=1) (by decide);omega)) rfl (.cons vR (.cons (au (by rw[wO (n:=1) (by decide) (by decide)];rfl)) .nil)) (aF rfl (OL.nil ?_)))))
    exact AW.reach () ⟨trivial,Knows.app .RZ (.cons (au (by rw[show a / 2 ^ m % 2=1 by omega];rfl)) .nil),dw.app (.cons rfl .nil) (.nil)⟩
   .try simp only[dX] at h33
    refine AW.skip ?_;exact AW.reach () ⟨trivial,Knows.app .RZ (.cons (au (by rw[show a / 2 ^ m % 2=0 by omega];rfl)) .nil),dw.app (.cons rfl .nil) (.nil)⟩
  rintro⟨⟩ hφ
  refine AW.sg hE rfl (ai rfl (ai rfl (cl (JJ (by omega) (by omega)) rfl vL (qY rfl rfl rfl (OL.nil (AW.cond rfl (λZj=>?_) (λZj=>?_)))))))
  .have Zj:b<=r+r+a / 2 ^ m % 2:=G9 (by have:=lq Zj;omega)
   have hsb:=az2 (i:=m) (by omega) hq h2
   refine AW.sg hE rfl (ai rfl (ai rfl (bJ rfl .iq (Gn (by omega) (by assumption)) (aF rfl (OL.nil (AW.rg hE rfl (jq rfl ?_)))))))
   refine ai rfl (bo rfl rfl (aO2 m 32 hmi (by omega) (by decide)) (iM sl.aH rfl rfl (by omega) (J6 ce.u32 0 (by decide) rfl rfl (by omega) rfl (ai rfl (bo rfl rfl (aZ8 m 32 hmi (by decide)) (cv it.int it.uint rfl (wrap_u64 (by omega)) ?_))))))
   refine aZ2 rfl rfl ⟨Int.natCast_nonneg _,by rw[Int.toNat_natCast];have:m % 32<32:=Nat.mod_lt _ (by decide);exact Nat.le_of_lt this⟩ (c:=((2 ^ (m % 32):Nat):Int)) (by rw[Int.toNat_natCast,Int.one_mul,<- Int.Kq,wrap_u32 ⟨Int.natCast_nonneg _,aA0 m⟩]) ?_
   refine bo rfl rfl (aO1 (hq.getD _) (TL m)) (iM sl.aH rfl rfl (by omega) (GI sz.u32 rfl (VC.d _).vd rfl rfl (by simp;omega) (es2:=(q.set (m / 32) (q.getD (m / 32) 0 ||| 2 ^ (m % 32))).map zY) (by rw[List.map_set]) (OL.nil (AW.rg hE rfl (ai rfl (gI rfl rfl (by omega) (aF rfl ?_)))))))
   refine OL.nil ?_;exact AW.again (x:=(m+1,q,r,Q)) (m,q.set (m / 32) (q.getD (m / 32) 0 ||| 2 ^ (m % 32)),r+r+a / 2 ^ m % 2-b,2*Q+1) (by (simp only[];omega)) ⟨⟨by simp[h1],hsb.2,hsb.1,(hds.2 Zj).1,(hds.2 Zj).2,by omega⟩,Knows.app .Jz (.cons vR (.cons vR (.cons (bG.int (by omega)) .nil))),.cons rfl .nil⟩
  .have Zj:r+r+a / 2 ^ m % 2<b:=by have:=nS Zj;rcases Nat.lt_or_ge (r+r+a / 2 ^ m % 2) b with h|h;exact h;exact absurd (VS h) this
   refine AW.skip (AW.rg hE rfl (ai rfl (gI rfl rfl (by omega) (aF rfl (OL.nil ?_)))))
   exact AW.again (x:=(m+1,q,r,Q)) (m,q,r+r+a / 2 ^ m % 2,2*Q) (by (simp only[];omega)) ⟨⟨h1,hq,by rw[h2,Nat.pow_succ,Nat.mul_comm 2 Q,Nat.mul_assoc,Nat.mul_comm 2],hds.1 Zj,Zj,by omega⟩,Knows.app .Jz (.cons vR (.cons vR (.cons (bG.int (by omega)) .nil))),.cons rfl .nil⟩
 .have h:=nS h;refine AW.exit (AW.seq ?_);obtain rfl:n=0:=by omega
  obtain⟨e1,e2⟩:=az3 h3 h4;subst e1;subst e2;have hv:val q=a / b:=by rw[h2,Nat.pow_zero,Nat.mul_one]
  refine AW.freeze 11 rfl (AW.to [(6,.d (aH q)),(7,.d (aH (lim (a % b))))] [] (.cons (dL (by simp[h1]) rfl) .bZ) .nil ?_)
  refine AW.rg hE rfl (ai rfl (cl (Eh hq (by omega)) rfl vL ?_))
  rw[hv];exact ai rfl (aF rfl (aF rfl (OL.nil (AW.ret (aP.r ⟨_,.tmp rfl (.tmp rfl .nil),_,.cons (.le vR) (.cons (.le vR) .nil),rfl⟩)))))
theorem JK {a b:Nat}(na:(lim a).length<=1099511627776)(nb:(lim b).length<=1099511627776):aj P F.xu [.d (aH (lim a)),.d (aH (lim b))] (.d (aH (lim (Nat.gcd a b)))):=by
 refine aj.intro fn.xu (by rfl) (by rfl) (aB (by rfl)) λE hE=>(AW.sg hE rfl (oK rfl (OL.nil (AW.seq (AW.block ?_)))))
 refine AW.aV (α:=Nat × Nat) [(4,_)] [] (λ(x,y)=>[(0,.d (aH (lim x))),(1,.d (aH (lim y)))]) (λ(x,y)=>[]) (λ(x,y)=>Nat.gcd x y=Nat.gcd a b/\(lim x).length<=1099511627776/\(lim y).length<=1099511627776) (λ(x,y)=>y) (a,b) (.cons (Ea rfl) .nil) .nil ⟨⟨rfl,na,nb⟩,.iq,.nil⟩ ?_
 rintro⟨x,y⟩ ⟨h1,h2,h3⟩
 refine AW.seq (AW.sg hE rfl (ai rfl (fJ sl.aH rfl rfl (iO rfl rfl rfl (OL.nil (AW.cond rfl (λh=>?_) (λh=>?_)))))))
 .have hy:y≠0:=λe=>by have:=lq h;rw[e,dY] at this;exact absurd this (by decide)
  have hml:(lim (x % y)).length<=1099511627776:=Nat.le_trans (sZ (Nat.mod_le x y)) h2;refine AW.skip (AW.block (AW.sg hE rfl (ai rfl (ai rfl (bJ rfl .iq (Gp (by assumption) (by assumption) (by assumption)) (zW rfl (ex rfl rfl ?_)))))))
  refine ex rfl rfl (aF rfl (aF rfl (OL.nil (AW.rg hE rfl (ai rfl (ai rfl (aF rfl ?_)))))));exact aF rfl (OL.nil (AW.again (x:=(x,y)) (y,x % y) (by exact Nat.mod_lt _ (Nat.pos_of_ne_zero hy)) ⟨⟨by rw[<- h1,Nat.gcd_comm y,<- Nat.gcd_rec,Nat.gcd_comm],h3,hml⟩,Knows.app .bZ .iq,.nil⟩))
 .have hy:y=0:=by have:=nS h;exact dK.1 (by omega)
  exact AW.exit (AW.sg hE rfl (ai rfl (aF rfl (OL.nil (AW.ret (aP.r ⟨_,.tmp rfl .nil,.le (au (by rw[<- h1,hy,Nat.gcd_zero_right];rfl))⟩))))))
theorem Ei {L:List Nat}(hL:jb L):aj P F.Bz [.d (aH L)] (.d (dB (decide (L=[1])))):=by
 refine aj.intro fn.Bz (by rfl) (by rfl) (aB (by rfl)) λE hE=>(AW.sg hE rfl (aF rfl (OL.nil (AW.sg hE rfl (ai rfl (fJ sl.aH rfl rfl (dR rfl rfl rfl ?_)))))))
 refine ai rfl (OL.split 6 rfl (λg6=>?_) (λg6=>?_))
 .try simp only[dX] at g6
  refine OL.yes rfl (ai rfl (OL.yes rfl (LJ 0 sl.aH 0 rfl rfl rfl (by omega) rfl rfl (OL.yes rfl (iH ce.u32 rfl (OL.yes rfl (dR rfl rfl rfl ?_)))))))
  exact oC rfl rfl (aF rfl (OL.nil (AW.ret (aP.r ⟨_,.tmp rfl .nil,.le (bG.bool (by have e:=XK hL;exact decide_eq_decide.2 ⟨λh=>e.2 ⟨by omega,by omega⟩,λh=>by have:=(e.1 h).2;omega⟩))⟩))))
 .try simp only[dX] at g6
  exact OL.nd rfl (OL.nd rfl (OL.nd rfl (OL.nd rfl (kL rfl rfl (aF rfl (OL.nil (AW.ret (aP.r ⟨_,.tmp rfl .nil,.le (bG.bool (by have e:=XK hL;exact (decide_eq_false λh=>by have:=(e.1 h).1;omega).symm))⟩))))))))
theorem XW {n:Nat}:aj P F.Bz [.d (aH (lim n))] (.d (dB (decide (n=1)))):=by
 have h:=Ei (bn n);rw[show decide (lim n=[1])=decide (n=1) from decide_eq_decide.2 Gj] at h;exact h

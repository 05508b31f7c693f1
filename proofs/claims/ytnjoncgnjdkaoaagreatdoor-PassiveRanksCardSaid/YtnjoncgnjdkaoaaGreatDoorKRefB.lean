/-
  Walks of the reference's numbers, part 2: division (printed by mk2.py).
-/
import Derived.Test.YtnjoncgnjdkaoaaGreatDoorKRatB
set_option linter.unusedVariables false
set_option linter.unusedSimpArgs false
namespace Go.Proofs.YtnjoncgnjdkaoaaGreatDoor
open Go Go.AL
theorem D6 {L:List Nat}(hL:iT L)(hn:L.length<=8796093022208):aj P F.CJ [.d (aF L)] (.d (aF (lim (val L)))):=by
 refine aj.intro fn.CJ (by rfl) (by rfl) (aA (by rfl)) λE hE=>(AW.sg hE rfl (jg rfl (OL.nil (AW.seq (AW.block (AW.aU (α:=List Nat) [(2,_)] [] (λA=>[(0,.d (aF A))]) (λA=>[]) (λA=>iT A/\val A=val L/\A.length<=L.length) (λA=>A.length) L (.cons (AO rfl) .nil) .nil ⟨⟨hL,rfl,Nat.le_refl _⟩,.di,.nil⟩ ?_))))))
 rintro A ⟨hA,hv,hl⟩
 refine AW.seq (AW.sg hE rfl (ai rfl (fJ sl.aF rfl rfl (gV rfl rfl rfl (ai rfl (OL.split 6 rfl (λg6=>?_) (λg6=>?_)))))))
 .try simp only[eG] at g6
  refine OL.yes rfl (ai rfl (OL.yes rfl (ai rfl (OL.yes rfl (fJ sl.aF rfl rfl (OL.yes rfl (gu rfl rfl (by omega) ?_)))))))
  refine OL.yes rfl (Z9 sl.aF 0 rfl rfl (by omega) (by omega) rfl rfl (OL.yes rfl (iE ce.u32 rfl (OL.yes rfl (dG rfl rfl rfl (lJ rfl rfl (OL.nil ?_)))))))
  refine AW.cond rfl (λEQ=>?_) (λEQ=>?_)
  .try simp only[eG] at EQ
   refine AW.skip (AW.block (AW.rg hE rfl (ai rfl (ai rfl (fJ sl.aF rfl rfl (gu rfl rfl (by omega) (ad5 sl.aF rfl rfl (λ_=>rfl) (by omega) (l2:=A.dropLast) (by rw[List.dropLast_eq_take];congr 1;omega) ?_)))))))
   refine aC rfl (OL.nil ?_);exact AW.again (x:=A) A.dropLast (by rw[List.length_dropLast];omega) ⟨⟨hA.dropLast,by rw[<- hv,GR (by omega) (by rw[yN] at EQ;omega)],by rw[List.length_dropLast];omega⟩,Knows.app .di .di,.nil⟩
  .try simp only[eG] at EQ
   exact AW.exit (AW.sg hE rfl (ai rfl (aC rfl (OL.nil (AW.ret (aO.r ⟨_,.tmp rfl .nil,.le (aB (by rw[<- hv,QJ hA (Xo (by omega) (by rw[yN] at EQ;omega))];rfl))⟩))))))
 .try simp only[eG] at g6
  refine OL.nd rfl (OL.nd rfl (OL.nd rfl (OL.nd rfl (OL.nd rfl (OL.nd rfl (OL.nd rfl (jZ rfl rfl ?_)))))));refine OL.nil (oz rfl ?_);exact AW.exit (AW.sg hE rfl (ai rfl (aC rfl (OL.nil (AW.ret (aO.r ⟨_,.tmp rfl .nil,.le (aB (by rw[<- hv,ad9 (L:=A) (by omega),iW,dR];rfl))⟩))))))
theorem Jz {v:Nat}(hv:v<18446744073709551616):aj P F.wK [.d (dU v)] (.d (aF (lim v))):=by
 refine aj.intro fn.wK (by rfl) (by rfl) (aA (by rfl)) λE hE=>(AW.sg hE rfl (jg rfl (OL.nil (AW.sg hE rfl (ai rfl (cv it.u64 it.u32 rfl (c:=((v % 4294967296:Nat):Int)) (by rw[gq];omega) (ai rfl ?_)))))))
 refine Jq rfl rfl rfl (cv it.u64 it.u32 rfl (c:=((v / 4294967296:Nat):Int)) (by rw[gq];omega) (lt2 sl.aF (VC.d _).vd (VC.d _).vd ⟨rfl,rfl⟩ (by decide) (cl (D6 (L:=[v % 4294967296,v / 4294967296]) (.cons (by omega) (.cons (by omega) .nil)) (by simp)) rfl vL ?_)))
 rw[show val [v % 4294967296,v / 4294967296]=v by simp only[iY,iW];omega]
 exact aC rfl (OL.nil (AW.ret (aO.r ⟨_,.tmp rfl .nil,.le vR⟩)))
theorem Tv {v:Int}:aj P F.CP [.d (dI v)] (.d (dI (SX v))):=by
 refine aj.intro fn.CP (by rfl) (by rfl) (aA (by rfl)) λE hE=>(AW.sg hE rfl (aC rfl (OL.nil (AW.seq (AW.block (AW.sg hE rfl (ai rfl ?_)))))))
 refine aX rfl rfl rfl (aC rfl (OL.nil (AW.cond rfl (λh3=>?_) (λh3=>?_))))
 .try simp only[eG] at h3
  exact AW.sg hE rfl (aC rfl (OL.nil (AW.ret (aO.r ⟨_,.tmp rfl .nil,.le (bG.int (by unfold SX;rw[if_pos h3]))⟩))))
 .try simp only[eG] at h3
  refine AW.sg hE rfl (ai rfl (gV rfl rfl rfl (aC rfl (OL.nil (AW.cond rfl (λh6=>?_) (λh6=>?_))))))
  .try simp only[eG] at h6
   exact AW.sg hE rfl (aC rfl (OL.nil (AW.ret (aO.r ⟨_,.tmp rfl .nil,.le (bG.int (by unfold SX;rw[if_neg h3,if_pos h6]))⟩))))
  .try simp only[eG] at h6
   exact AW.skip (AW.sg hE rfl (aC rfl (OL.nil (AW.ret (aO.r ⟨_,.tmp rfl .nil,.le (bG.int (by unfold SX;rw[if_neg h3,if_neg h6]))⟩)))))
theorem JA {a b:Nat}(na:(lim a).length<=8796093022208)(nb:(lim b).length<=8796093022208):aj P F.wE [.d (aF (lim a)),.d (aF (lim b))] (.d (dI (DF a b))):=by
 refine aj.intro fn.wE (by rfl) (by rfl) (aA (by rfl)) λE hE=>(AW.sg hE rfl (aC rfl (OL.nil (AW.seq (AW.sg hE rfl (ai rfl (fJ sl.aF rfl rfl ?_)))))))
 refine ai rfl (fJ sl.aF rfl rfl (fC rfl rfl rfl (OL.nil (AW.cond rfl (λh10=>?_) (λh10=>?_)))))
 .try simp only[eG] at h10
  refine AW.sg hE rfl (ai rfl (fJ sl.aF rfl rfl (ai rfl (fJ sl.aF rfl rfl (gu rfl rfl (by omega) (bF rfl .di (Tv) (aC rfl ?_)))))))
  exact OL.nil (AW.ret (aO.r ⟨_,.tmp rfl .nil,.le (aB (by rw[aw8 (by omega)];rfl))⟩))
 .try simp only[eG] at h10
  refine AW.skip (AW.seq (AW.sg hE rfl (ai rfl (fJ sl.aF rfl rfl (gu rfl rfl (by omega) (aC rfl (OL.nil ?_)))))))
  refine AW.block ?_;refine AW.aU (α:=Nat) [(0,_),(1,_)] [] (λn=>[(5,.d (dI ((n:Int)-1)))]) (λn=>[]) (λn=>n<=(lim a).length/\∀ j,n<=j->(lim a).getD j 0=(lim b).getD j 0) (λn=>n) (lim a).length (.cons (bY rfl) (.cons (bY rfl) .nil)) .nil ⟨⟨Nat.le_refl _,λj hj=>by rw[yM (by omega),yM (by omega)]⟩,.di,.nil⟩ ?_
  rintro n ⟨hn,hh⟩
  refine AW.seq (AW.sg hE rfl (ai rfl (ql rfl rfl rfl (OL.nil (AW.cond rfl (λh=>?_) (λh=>?_))))))
  .have h:=kK h;have e1:((n:Int)-1).toNat=n-1:=by omega
   have hx:=(aZ a).getD (n-1);have hy:=(aZ b).getD (n-1);refine AW.skip (AW.seq (AW.block (AW.seq (AW.dg 1 [0,1,2,3,4,5,6,7,8] au hE rfl (by kernel_rfl) (OI.aS (os:=[_,_,_,_,_,_,_,_,_]) rfl ?_)))))
   refine ai rfl (ai rfl (QS (n-1) sl.aF 0 rfl rfl (by omega) (by omega) rfl rfl (iE ce.u32 rfl (ai rfl (ai rfl (QS (n-1) sl.aF 0 rfl rfl (by omega) (by omega) rfl rfl (iE ce.u32 rfl ?_)))))))
   refine fC rfl rfl rfl (OL.nil (AW.cond rfl (λhne=>?_) (λhne=>?_)))
   .have hne:(lim a).getD (n-1) 0≠(lim b).getD (n-1) 0:=by have:=DC hne;omega
    refine AW.seq (AW.dg 1 [0,1,2,3,4,5,6,7,8,9,10,11,12] au hE rfl (by kernel_rfl) (OI.aS (os:=[_,_,_,_,_,_,_,_,_,_,_,_,_]) rfl ?_))
    refine ai rfl (ai rfl (QS (n-1) sl.aF 0 rfl rfl (by omega) (by omega) rfl rfl (iE ce.u32 rfl (cv it.u32 it.int rfl (wrap_i64 (by omega)) (ai rfl (ai rfl (QS (n-1) sl.aF 0 rfl rfl (by omega) (by omega) rfl rfl ?_)))))))
    exact iE ce.u32 rfl (cv it.u32 it.int rfl (wrap_i64 (by omega)) (gu rfl rfl (by omega) (bF rfl .di (Tv) (aC rfl (OL.nil (AW.ret (aO.r ⟨_,.tmp rfl .nil,.le (bG.int (by rw[aw9 (ae0 (aZ a) (aZ b) (i:=n-1) (λj hj=>hh j (by omega)) hne) hne,bf,bf]))⟩)))))))
   .have hne:(lim a).getD (n-1) 0=(lim b).getD (n-1) 0:=by have:=BV hne;omega
    refine AW.skip (AW.rg hE rfl (ai rfl (gu rfl rfl (by omega) (aC rfl (OL.nil ?_)))))
    exact AW.again (x:=n) (n-1) (by omega) ⟨⟨by omega,λj hj=>by rcases Nat.lt_or_ge j n with hj2|hj2;(have:j=n-1:=by omega);rw[this];omega;exact hh j hj2⟩,Knows.app .gy (.cons (bG.int (by omega)) .nil),.nil⟩
  .have h:=lD h;exact AW.exit (AW.sg hE rfl (aC rfl (OL.nil (AW.ret (aO.r ⟨_,.tmp rfl .nil,.le (bG.int (by have h:=OB (aZ a) (aZ b) λj=>hh j (by omega);rw[bf,bf] at h;subst h;simp[DF]))⟩)))))
theorem G8 {L:List Nat}{i:Nat}(hL:iT L):aj P F.CO [.d (aF L),.d (dI i)] (.d (dU (L.getD i 0))):=by
 refine aj.intro fn.CO (by rfl) (by rfl) (aA (by rfl)) λE hE=>(AW.sg hE rfl (aC rfl (OL.nil (AW.seq (AW.sg hE rfl (ai rfl (ai rfl ?_)))))))
 refine fJ sl.aF rfl rfl (ql rfl rfl rfl (OL.nil (AW.cond rfl (λh8=>?_) (λh8=>?_))))
 .try simp only[eG] at h8
  exact AW.sg hE rfl (aC rfl (OL.nil (AW.ret (aO.r ⟨_,.tmp rfl .nil,.le (bG.int (by rw[yM (by omega)];rfl))⟩))))
 .try simp only[eG] at h8
  refine AW.skip (AW.sg hE rfl (ai rfl (ai rfl (fM sl.aF 0 rfl rfl (by omega) rfl rfl (iE ce.u32 rfl (cv it.u32 it.u64 rfl (wrap_u64 ⟨by omega,by have:=hL.getD i;omega⟩) (aC rfl ?_)))))))
  exact OL.nil (AW.ret (aO.r ⟨_,.tmp rfl .nil,.le vR⟩))
theorem ag7 {A C:List Nat}(hA:iT A)(hC:iT C)(nA:A.length<=4398046511104)(nC:C.length<=4398046511104):aj P F.yR [.d (aF A),.d (aF C)] (.d (aF (lim (val A+val C)))):=by
 refine aj.intro fn.yR (by rfl) (by rfl) (aA (by rfl)) λE hE=>(AW.sg hE rfl (jg rfl (OL.nil (AW.sg hE rfl (jg rfl (OL.nil (AW.sg hE rfl ?_)))))))
 refine aC rfl (OL.nil (AW.seq (AW.sg hE rfl (aC rfl (OL.nil (AW.own 5 31 T.u32 1 rfl rfl (AW.block ?_)))))));refine AW.aU (α:=Nat × List Nat × Nat × Nat × Nat) [(0,_),(1,_),(4,_)] [] (λ(i,out,sum,b,c)=>[(5,.bH 31 b out.length c),(6,.d (dU sum)),(7,.d (dI i))]) (λ(i,out,sum,b,c)=>[(31,.row b c T.u32 1 (out.map zn))]) (λ(i,out,sum,b,c)=>out.length=i/\iT out/\val out+Bp i*sum=val (A.take i)+val (C.take i)/\sum<=1/\i<=max A.length C.length+1) (λ(i,out,sum,b,c)=>max A.length C.length+1-i) (0,[],0,0,0) (.cons (bY rfl) (.cons (bY rfl) (.cons (AO rfl) .nil))) .nil ⟨⟨rfl,iT.nil,rfl,by omega,by omega⟩,.xf,.cons rfl .nil⟩ ?_
 rintro⟨i,out,sum,b,c⟩ ⟨h1,hO,h2,h3,h4⟩
 refine AW.seq (AW.sg hE rfl (ai rfl (ai rfl (fJ sl.aF rfl rfl (ai rfl (fJ sl.aF rfl rfl (mx rfl rfl (c:=((max A.length C.length:Nat):Int)) (by omega) ?_)))))))
 refine wZ rfl rfl rfl (OL.nil (AW.cond rfl (λh15=>?_) (λh15=>?_)))
 .try simp only[eG] at h15
  refine AW.skip (AW.seq (AW.block (AW.seq ?_)));have hx:=hA.getD i;have hy:=hC.getD i;refine AW.rg hE rfl (ai rfl (ai rfl (bF rfl .gy (G8 (by assumption)) (ai rfl (ai rfl (bF rfl .gy (G8 (by assumption)) (wC rfl rfl (by omega) ?_)))))))
  refine ai rfl (wC rfl rfl (by omega) (aC rfl (OL.nil (AW.rg hE rfl (gU rfl (ai rfl (cv it.u64 it.u32 rfl (c:=(((sum+(A.getD i 0+C.getD i 0)) % 4294967296:Nat):Int)) (by rw[gq];omega) ?_)))))))
  refine xe sl.aF (VC.d _).vd rfl (by decide) ?_
  refine zB sl.aF rfl rfl rfl (by simp) (VC.d _) (by simp[D.cells]) (by simp;omega) (by simp;omega) (.inr rfl) (ys:=(out++[(sum+(A.getD i 0+C.getD i 0)) % 4294967296]).map zn) (by simp) (n2:=(out++[(sum+(A.getD i 0+C.getD i 0)) % 4294967296]).length) (by simp) λb2 c2=>?_
  refine ai rfl (Jq rfl rfl rfl (oC rfl (aC rfl (OL.nil (AW.rg hE rfl (ai rfl (aH rfl rfl (by omega) ?_)))))))
  refine aC rfl (OL.nil ?_);exact AW.again (x:=(i,out,sum,b,c)) (i+1,out++[(sum+(A.getD i 0+C.getD i 0)) % 4294967296],(sum+(A.getD i 0+C.getD i 0)) / 4294967296,b2,c2) (by (simp only[];omega)) ⟨⟨by simp[h1],hO.append (.cons (Nat.mod_lt _ (by decide)) .nil),by rw[yJ,h1,fD hA,fD hC];exact OC h2,by omega,by omega⟩,Knows.app .xf (.cons vR (.cons (bG.int (by omega)) .di)),.cons rfl .nil⟩
 .try simp only[eG] at h15
  refine AW.exit (AW.seq ?_);have hv:val out=val A+val C:=af5 hA hC (by omega) h1 h2
  refine AW.freeze 31 rfl (AW.to [(5,.d (aF out))] [] (.cons (eH (by simp) rfl) .nil) .nil ?_)
  exact AW.rg hE rfl (ai rfl (bF rfl .di (D6 (by assumption) (by omega)) (aC rfl (OL.nil (AW.ret (aO.r ⟨_,.tmp rfl .nil,.le (aB (by rw[<- hv];rfl))⟩))))))
theorem Y4 {A C:List Nat}(hA:iT A)(hC:iT C)(nA:A.length<=8796093022208)(hle:val C<=val A):aj P F.xh [.d (aF A),.d (aF C)] (.d (aF (lim (val A-val C)))):=by
 refine aj.intro fn.xh (by rfl) (by rfl) (aA (by rfl)) λE hE=>(AW.sg hE rfl (jg rfl (OL.nil (AW.sg hE rfl (jg rfl (OL.nil (AW.sg hE rfl ?_)))))))
 refine aC rfl (OL.nil (AW.seq (AW.sg hE rfl (aC rfl (OL.nil (AW.own 5 29 T.u32 1 rfl rfl (AW.block ?_)))))));refine AW.aU (α:=Nat × List Nat × Nat × Nat × Nat) [(0,_),(1,_),(4,_)] [] (λ(i,out,less,b,c)=>[(5,.bH 29 b out.length c),(6,.d (dU less)),(7,.d (dI i))]) (λ(i,out,less,b,c)=>[(29,.row b c T.u32 1 (out.map zn))]) (λ(i,out,less,b,c)=>out.length=i/\iT out/\val (A.take i)+less*Bp i=val out+val (C.take i)/\less<=1/\i<=A.length) (λ(i,out,less,b,c)=>A.length-i) (0,[],0,0,0) (.cons (bY rfl) (.cons (bY rfl) (.cons (AO rfl) .nil))) .nil ⟨⟨rfl,iT.nil,by simp[iW],by omega,by omega⟩,.xf,.cons rfl .nil⟩ ?_
 rintro⟨i,out,less,b,c⟩ ⟨h1,hO,h2,h3,h4⟩
 refine AW.seq (AW.sg hE rfl (ai rfl (ai rfl (fJ sl.aF rfl rfl (aX rfl rfl rfl (OL.nil (AW.cond rfl (λh12=>?_) (λh12=>?_))))))))
 .try simp only[eG] at h12
  refine AW.skip (AW.seq (AW.block (AW.seq ?_)));have hx:=hA.getD i;have hy:=hC.getD i;refine AW.rg hE rfl (ai rfl (ai rfl (bF rfl .gy (G8 (by assumption)) (wC rfl rfl (by omega) (ai rfl (ai rfl (bF rfl .gy (G8 (by assumption)) ?_)))))))
  refine J5 rfl rfl (by omega) (ai rfl (J5 rfl rfl (by omega) (aC rfl (OL.nil (AW.rg hE rfl (gU rfl (ai rfl ?_)))))))
  refine cv it.u64 it.u32 rfl (c:=(((A.getD i 0+4294967296-C.getD i 0-less) % 4294967296:Nat):Int)) (by rw[gq];omega) (xe sl.aF (VC.d _).vd rfl (by decide) ?_)
  refine zB sl.aF rfl rfl rfl (by simp) (VC.d _) (by simp[D.cells]) (by simp;omega) (by simp;omega) (.inr rfl) (ys:=(out++[(A.getD i 0+4294967296-C.getD i 0-less) % 4294967296]).map zn) (by simp) (n2:=(out++[(A.getD i 0+4294967296-C.getD i 0-less) % 4294967296]).length) (by simp) λb2 c2=>?_
  refine ai rfl (Jq rfl rfl rfl (J5 rfl rfl (by omega) (oC rfl (aC rfl (OL.nil (AW.rg hE rfl (ai rfl ?_)))))))
  refine aH rfl rfl (by omega) (aC rfl (OL.nil ?_))
  exact AW.again (x:=(i,out,less,b,c)) (i+1,out++[(A.getD i 0+4294967296-C.getD i 0-less) % 4294967296],if A.getD i 0<C.getD i 0+less then 1 else 0,b2,c2) (by (simp only[];omega)) ⟨⟨by simp[h1],hO.append (.cons (Nat.mod_lt _ (by decide)) .nil),by rw[fD hA,fD hC,yJ,h1];exact KW h2 hx hy h3,by split <;> omega,by omega⟩,Knows.app .xf (.cons vR (.cons (bG.int (by split <;> omega)) .di)),.cons rfl .nil⟩
 .try simp only[eG] at h12
  refine AW.exit (AW.seq ?_);have hv:val out=val A-val C:=OD hA hO (by omega) hle (by rw[rW (A:=out) (by omega)];rw[show i=A.length by omega] at h2;exact h2) h3 hC
  refine AW.freeze 29 rfl (AW.to [(5,.d (aF out))] [] (.cons (eH (by simp) rfl) .nil) .nil ?_)
  exact AW.rg hE rfl (ai rfl (bF rfl .di (D6 (by assumption) (by omega)) (aC rfl (OL.nil (AW.ret (aO.r ⟨_,.tmp rfl .nil,.le (aB (by rw[<- hv];rfl))⟩))))))
theorem Y5 {A C:List Nat}(hA:iT A)(hC:iT C)(nA:A.length<=4398046511104)(nC:C.length<=4398046511104):aj P F.xg [.d (aF A),.d (aF C)] (.d (aF (lim (val A*val C)))):=by
 refine aj.intro fn.xg (by rfl) (by rfl) (aA (by rfl)) λE hE=>(AW.sg hE rfl (jg rfl (OL.nil (AW.sg hE rfl (ai rfl (fJ sl.aF rfl rfl (ai rfl ?_)))))))
 refine fJ sl.aF rfl rfl (bo rfl rfl (kM (c:=((A.length+C.length:Nat):Int)) (by omega) (wrap_i64 (by omega))) (mkL zn 0 sl.aF z.u32 (.cons (VC.d _) .nil) rfl rfl (Nat.le_refl _) (by omega) (by omega) rfl λb=>(oC rfl (OL.nil (AW.seq (AW.sg hE rfl (aC rfl ?_)))))))
 refine OL.nil (AW.block ?_);refine AW.aU (α:=Nat × List Nat) [(0,_),(1,_),(4,_)] [] (λ(i,out)=>[(5,.bH 15 b (A.length+C.length) (A.length+C.length)),(6,.d (dI i))]) (λ(i,out)=>[(15,.row b (A.length+C.length) T.u32 1 (out.map zn))]) (λ(i,out)=>out.length=A.length+C.length/\iT out/\val out=val (A.take i)*val C/\i<=A.length/\∀ j,i+C.length<=j->out.getD j 0=0) (λ(i,out)=>A.length-i) (0,List.replicate (A.length+C.length) 0) (.cons (bY rfl) (.cons (bY rfl) (.cons (AO rfl) .nil))) .nil ⟨⟨by simp,iT.zeros _,by simp[iW,ED],by omega,λj _=>VQ _ j⟩,.gy,.cons rfl .nil⟩ ?_
 rintro⟨i,QU⟩ ⟨h1,hO0,h2,h3,h4⟩
 refine AW.seq (AW.sg hE rfl (ai rfl (ai rfl (fJ sl.aF rfl rfl (aX rfl rfl rfl (OL.nil (AW.cond rfl (λh19=>?_) (λh19=>?_))))))))
 .try simp only[eG] at h19
  refine AW.skip (AW.seq (AW.block (AW.sg hE rfl (aC rfl (OL.nil (AW.seq (AW.sg hE rfl ?_)))))));refine aC rfl (OL.nil (AW.block ?_));refine AW.aU (α:=Nat × List Nat × Nat) [(0,_),(1,_),(4,_),(6,_)] [] (λ(j,out,sum)=>[(5,.bH 15 b (A.length+C.length) (A.length+C.length)),(7,.d (dU sum)),(8,.d (dI j))]) (λ(j,out,sum)=>[(15,.row b (A.length+C.length) T.u32 1 (out.map zn))]) (λ(j,out,sum)=>out.length=A.length+C.length/\iT out/\val out+sum*Bp (i+j)=val (A.take i)*val C+A.getD i 0*Bp i*val (C.take j)/\sum<=4294967295/\j<=C.length/\∀ k,i+C.length<=k->out.getD k 0=0) (λ(j,out,sum)=>C.length-j) (0,QU,0) (.cons (bY rfl) (.cons (bY rfl) (.cons (AO rfl) (.cons (bY rfl) .nil)))) .nil ⟨⟨h1,hO0,by simp[iW,h2],by omega,by omega,h4⟩,.xf,.cons rfl .nil⟩ ?_
  rintro⟨j,out,sum⟩ ⟨g1,hO,g2,g3,g4,g6⟩
  refine AW.seq (AW.sg hE rfl (ai rfl (ai rfl (fJ sl.aF rfl rfl (aX rfl rfl rfl (OL.nil (AW.cond rfl (λh25=>?_) (λh25=>?_))))))))
  .try simp only[eG] at h25
   refine AW.skip (AW.seq (AW.block (AW.seq ?_)));have ha:=hA.getD i;have hc2:=hC.getD j;have ho:=hO.getD (i+j);have hp:A.getD i 0*C.getD j 0<=4294967295*4294967295:=Nat.mul_le_mul (by omega) (by omega)
   have st1:val (out.set (i+j) ((sum+(out.getD (i+j) 0+A.getD i 0*C.getD j 0)) % 4294967296))+(sum+(out.getD (i+j) 0+A.getD i 0*C.getD j 0)) / 4294967296*Bp (i+(j+1))=val (A.take i)*val C+A.getD i 0*Bp i*val (C.take (j+1)):=by
    rw[fD hC];exact KX (by omega) g2 rfl
   refine AW.dg 1 [0,1,2,3,4,5,6,7,8,9,10,11,12,13,14,15,16,17,18,19,20,21] au hE rfl (by kernel_rfl) (OI.aS (os:=[_,_,_,_,_,_,_,_,_,_,_,_,_,_,_,_,_,_,_,_,_,_]) rfl ?_)
   refine ai rfl (ai rfl (fM sl.aF 0 rfl rfl (by omega) rfl rfl (iE ce.u32 rfl (cv it.u32 it.u64 rfl (wrap_u64 (by omega)) (ai rfl (ai rfl (fM sl.aF 0 rfl rfl (by omega) rfl rfl ?_)))))))
   refine iE ce.u32 rfl (cv it.u32 it.u64 rfl (wrap_u64 (by omega)) (bo rfl rfl (J6 (c:=((A.getD i 0*C.getD j 0:Nat):Int)) (by rw[Int.natCast_mul]) (wrap_u64 (by omega))) (gU rfl (ai rfl (ai rfl (aH rfl rfl (by omega) (YA sl.aF rfl rfl (by omega) (by omega) (i:=i+j) (by omega) ?_)))))))
   refine SH ce.u32 0 (by decide) rfl rfl (by omega) rfl (cv it.u32 it.u64 rfl (wrap_u64 (by omega)) (wC rfl rfl (by omega) (ai rfl (wC rfl rfl (by omega) (aC rfl (OL.nil (AW.rg hE rfl ?_)))))))
   refine gU rfl (ai rfl (ai rfl (aH rfl rfl (by omega) (ai rfl (cv it.u64 it.u32 rfl (c:=(((sum+(out.getD (i+j) 0+A.getD i 0*C.getD j 0)) % 4294967296:Nat):Int)) (by rw[gq];omega) (ai rfl (Jq rfl rfl rfl ?_)))))))
   refine YA sl.aF rfl rfl (by omega) (by omega) (i:=i+j) (by omega) (Oa sz.u32 rfl (VC.d _).vd rfl rfl (by simp;omega) (es2:=(out.set (i+j) ((sum+(out.getD (i+j) 0+A.getD i 0*C.getD j 0)) % 4294967296)).map zn) (by rw[List.map_set]) (aC rfl (OL.nil (AW.rg hE rfl (ai rfl (aH rfl rfl (by omega) (aC rfl ?_)))))))
   refine OL.nil ?_;exact AW.again (x:=(j,out,sum)) (j+1,out.set (i+j) ((sum+(out.getD (i+j) 0+A.getD i 0*C.getD j 0)) % 4294967296),(sum+(out.getD (i+j) 0+A.getD i 0*C.getD j 0)) / 4294967296) (by (simp only[];omega)) ⟨⟨by simp[g1],hO.set _ (Nat.mod_lt _ (by decide)),st1,by omega,by omega,af6 g6 (by omega)⟩,Knows.app .GL (.cons vR (.cons (bG.int (by omega)) .di)),.cons rfl .nil⟩
  .try simp only[eG] at h25
   refine AW.exit (AW.rg hE rfl (gU rfl (ai rfl (ai rfl (fJ sl.aF rfl rfl (aH rfl rfl (by omega) (ai rfl ?_)))))))
   refine cv it.u64 it.u32 rfl (c:=(sum:Int)) (by rw[gq];omega) (YA sl.aF rfl rfl (by omega) (by omega) (i:=i+C.length) (by omega) (Oa sz.u32 rfl (VC.d _).vd rfl rfl (by simp;omega) (es2:=(out.set (i+C.length) sum).map zn) (by rw[List.map_set]) (OL.nil (AW.rg hE rfl (ai rfl (aH rfl rfl (by omega) (aC rfl ?_)))))))
   refine OL.nil ?_;exact AW.again (x:=(i,QU)) (i+1,out.set (i+C.length) sum) (by (simp only[];omega)) ⟨⟨by simp[g1],hO.set _ (by omega),ax0 hA (by omega) (g6 _ (Nat.le_refl _)) (by rw[show j=C.length by omega] at g2;exact g2),by omega,λk hk=>by rw[Go.AL.getD_set_ne (by omega)];exact g6 k (by omega)⟩,Knows.app .xf .gy,.cons rfl .nil⟩
 .try simp only[eG] at h19
  refine AW.exit (AW.seq ?_);have hv:val QU=val A*val C:=by rw[h2,rW (by omega)]
  refine AW.freeze 15 rfl (AW.to [(5,.d (aF QU))] [] (.cons (eH (by simp[h1]) rfl) .nil) .nil ?_)
  exact AW.rg hE rfl (ai rfl (bF rfl .di (D6 (by assumption) (by omega)) (aC rfl (OL.nil (AW.ret (aO.r ⟨_,.tmp rfl .nil,.le (aB (by rw[<- hv];rfl))⟩))))))
theorem IE {a b:Nat}(na:(lim a).length<=4398046511104)(nb:(lim b).length<=4398046511104):aj P F.yR [.d (aF (lim a)),.d (aF (lim b))] (.d (aF (lim (a+b)))):=by
 have h:=ag7 (aZ a) (aZ b) na nb;rw[bf,bf] at h;exact h
theorem F6 {a b:Nat}(na:(lim a).length<=8796093022208)(hle:b<=a):aj P F.xh [.d (aF (lim a)),.d (aF (lim b))] (.d (aF (lim (a-b)))):=by
 have h:=Y4 (aZ a) (aZ b) na (by rw[bf,bf];exact hle)
 rw[bf,bf] at h;exact h
theorem tV {a b:Nat}(na:(lim a).length<=4398046511104)(nb:(lim b).length<=4398046511104):aj P F.xg [.d (aF (lim a)),.d (aF (lim b))] (.d (aF (lim (a*b)))):=by
 have h:=Y5 (aZ a) (aZ b) na nb;rw[bf,bf] at h;exact h
theorem Int.JW (m:Nat):((2 ^ m:Nat):Int)=2 ^ m:=by rw[Int.natCast_pow];rfl
theorem Tz (m:Nat):2 ^ (m % 32)<4294967296:=Nat.pow_lt_pow_right (m:=m % 32) (n:=32) (by decide) (Nat.mod_lt _ (by decide))
theorem ay0 (m:Nat):((2 ^ (m % 32):Nat):Int)<=4294967295:=by have:=Tz m;omega
theorem F7 {a b:Nat}(hb:b≠0)(na:(lim a).length<=1099511627776)(nb:(lim b).length<=1099511627776):aj P F.xZ [.d (aF (lim a)),.d (aF (lim b))] (.jE [.d (aF (lim (a / b))),.d (aF (lim (a % b)))]):=by
 refine aj.intro fn.xZ (by rfl) (by rfl) (aA (by rfl)) λE hE=>(AW.sg hE rfl (jg rfl (jg rfl (OL.nil (AW.sg hE rfl (ai rfl (fJ sl.aF rfl rfl ?_)))))))
 refine mkL zn 0 sl.aF z.u32 (.cons (VC.d _) .nil) rfl rfl (Nat.le_refl _) (by omega) (by omega) rfl λb11=>(oC rfl (OL.nil (AW.sg hE rfl (jg rfl (OL.nil (AW.seq (AW.sg hE rfl ?_)))))))
 refine ai rfl (fJ sl.aF rfl rfl (QF rfl rfl (by omega) (gu rfl rfl (by omega) (aC rfl (OL.nil (AW.block ?_))))))
 refine AW.aU (α:=Nat × List Nat × Nat × Nat) [(0,_),(1,_),(4,_),(5,_)] [] (λ(n,q,r,Q)=>[(6,.bH 11 b11 (lim a).length (lim a).length),(7,.d (aF (lim r))),(8,.d (dI ((n:Int)-1)))]) (λ(n,q,r,Q)=>[(11,.row b11 (lim a).length T.u32 1 (q.map zn))]) (λ(n,q,r,Q)=>q.length=(lim a).length/\iT q/\val q=Q*2 ^ n/\a / 2 ^ n=Q*b+r/\r<b/\n<=32*(lim a).length) (λ(n,q,r,Q)=>n) (32*(lim a).length,List.replicate (lim a).length 0,0,0) (.cons (bY rfl) (.cons (bY rfl) (.cons (AO rfl) (.cons (AO rfl) .nil)))) .nil ⟨⟨by simp,iT.zeros _,by rw[ED,Nat.zero_mul],by rw[Y0,Nat.zero_mul],by omega,Nat.le_refl _⟩,.cons vR (.cons (by rw[dR];exact bG.mt) .di),.cons rfl .nil⟩ ?_
 rintro⟨n,q,r,Q⟩ ⟨h1,hq,h2,h3,h4,h5⟩
 refine AW.seq (AW.sg hE rfl (ai rfl (ql rfl rfl rfl (OL.nil (AW.cond rfl (λh=>?_) (λh=>?_))))))
 .have h:=kK h;obtain⟨m,rfl⟩:∃ m,n=m+1:=⟨n-1,by omega⟩
  have hmi:((m+1:Nat):Int)-1=(m:Int):=by omega
  have hrl:=rF (Nat.le_of_lt h4);have ht:a / 2 ^ m % 2<2:=Nat.mod_lt _ (by decide)
  have hds:=af7 (i:=m) (Nat.pos_of_ne_zero hb) h3 h4;have hr2:=rF (show r+r+a / 2 ^ m % 2<=b+b by omega)
  have hr3:=rF (show r+r<=b+b by omega)
  have hbb:=Xw b b;refine AW.skip (AW.seq (AW.block (AW.sg hE rfl (ai rfl (ai rfl (bF rfl .gy (IE (by omega) (by omega)) (aC rfl ?_)))))))
  refine OL.nil ?_;refine AW.JU (α:=Unit) [(0,_),(1,_),(4,_),(5,_),(6,_),(8,_)] [(11,_)] (λ_u=>[(7,.d (aF (lim (r+r+a / 2 ^ m % 2))))]) (λ_u=>[]) (λ_u=>True) (.cons (bY rfl) (.cons (bY rfl) (.cons (AO rfl) (.cons (AO rfl) (.cons (yO rfl) (.cons (bY rfl) .nil)))))) (.cons (rY rfl) .nil) ?_ ?_
  .refine AW.sg hE rfl (ai rfl (ai rfl (bo rfl rfl (aw7 m 32 hmi (by omega) (by decide)) (fM sl.aF 0 rfl rfl (by omega) rfl rfl (iE ce.u32 rfl (ai rfl (bo rfl rfl (aU7 m 32 hmi (by decide)) ?_)))))))
   refine cv it.int it.uint rfl (wrap_u64 (by omega)) (YM rfl rfl ⟨Int.natCast_nonneg _,by rw[Int.toNat_natCast];have:m % 32<32:=Nat.mod_lt _ (by decide);exact Nat.le_of_lt this⟩ (by rw[Int.toNat_natCast,GK]) (bo rfl rfl (af0 (Nat.lt_of_le_of_lt (Nat.div_le_self ..) ((aZ a).getD _))) ?_))
   rw[aK8 (aZ a),bf];refine dG rfl rfl rfl (OL.nil (AW.cond rfl (λh33=>?_) (λh33=>?_)))
   .try simp only[eG] at h33
    refine AW.rg hE rfl (ai rfl (xe sl.aF (VC.d _).vd rfl (by decide) (cl (IE (b:=1) (by omega) (by have:=qM (g:=1) (by decide);omega)) rfl (.cons vR (.cons (aB (by rw[vO (n:=1) (by decide) (by decide)];rfl)) .nil)) (aC rfl (OL.nil ?_)))))
    exact AW.reach () ⟨trivial,Knows.app .Vh (.cons (aB (by rw[show a / 2 ^ m % 2=1 by omega];rfl)) .nil),dw.app (.cons rfl .nil) (.nil)⟩
   .try simp only[eG] at h33
    refine AW.skip ?_;exact AW.reach () ⟨trivial,Knows.app .Vh (.cons (aB (by rw[show a / 2 ^ m % 2=0 by omega];rfl)) .nil),dw.app (.cons rfl .nil) (.nil)⟩
  rintro⟨⟩ hφ
  refine AW.sg hE rfl (ai rfl (ai rfl (cl (JA (by omega) (by omega)) rfl vL (ql rfl rfl rfl (OL.nil (AW.cond rfl (λY6=>?_) (λY6=>?_)))))))
  .have Y6:b<=r+r+a / 2 ^ m % 2:=GU (by have:=kK Y6;omega)
   have hsb:=ax1 (i:=m) (by omega) hq h2
   refine AW.sg hE rfl (ai rfl (ai rfl (bF rfl .gy (F6 (by omega) (by assumption)) (aC rfl (OL.nil (AW.rg hE rfl (gU rfl ?_)))))))
   refine ai rfl (bo rfl rfl (aw7 m 32 hmi (by omega) (by decide)) (jk sl.aF rfl rfl (by omega) (SH ce.u32 0 (by decide) rfl rfl (by omega) rfl (ai rfl (bo rfl rfl (aU7 m 32 hmi (by decide)) (cv it.int it.uint rfl (wrap_u64 (by omega)) ?_))))))
   refine aU2 rfl rfl ⟨Int.natCast_nonneg _,by rw[Int.toNat_natCast];have:m % 32<32:=Nat.mod_lt _ (by decide);exact Nat.le_of_lt this⟩ (c:=((2 ^ (m % 32):Nat):Int)) (by rw[Int.toNat_natCast,Int.one_mul,<- Int.JW,wrap_u32 ⟨Int.natCast_nonneg _,ay0 m⟩]) ?_
   refine bo rfl rfl (aK2 (hq.getD _) (Tz m)) (jk sl.aF rfl rfl (by omega) (Oa sz.u32 rfl (VC.d _).vd rfl rfl (by simp;omega) (es2:=(q.set (m / 32) (q.getD (m / 32) 0 ||| 2 ^ (m % 32))).map zn) (by rw[List.map_set]) (OL.nil (AW.rg hE rfl (ai rfl (gu rfl rfl (by omega) (aC rfl ?_)))))))
   refine OL.nil ?_;exact AW.again (x:=(m+1,q,r,Q)) (m,q.set (m / 32) (q.getD (m / 32) 0 ||| 2 ^ (m % 32)),r+r+a / 2 ^ m % 2-b,2*Q+1) (by (simp only[];omega)) ⟨⟨by simp[h1],hsb.2,hsb.1,(hds.2 Y6).1,(hds.2 Y6).2,by omega⟩,Knows.app .GL (.cons vR (.cons vR (.cons (bG.int (by omega)) .nil))),.cons rfl .nil⟩
  .have Y6:r+r+a / 2 ^ m % 2<b:=by have:=lD Y6;rcases Nat.lt_or_ge (r+r+a / 2 ^ m % 2) b with h|h;exact h;exact absurd (VJ h) this
   refine AW.skip (AW.rg hE rfl (ai rfl (gu rfl rfl (by omega) (aC rfl (OL.nil ?_)))))
   exact AW.again (x:=(m+1,q,r,Q)) (m,q,r+r+a / 2 ^ m % 2,2*Q) (by (simp only[];omega)) ⟨⟨h1,hq,by rw[h2,Nat.pow_succ,Nat.mul_comm 2 Q,Nat.mul_assoc,Nat.mul_comm 2],hds.1 Y6,Y6,by omega⟩,Knows.app .GL (.cons vR (.cons vR (.cons (bG.int (by omega)) .nil))),.cons rfl .nil⟩
 .have h:=lD h;refine AW.exit (AW.seq ?_);obtain rfl:n=0:=by omega
  obtain⟨e1,e2⟩:=ax2 h3 h4;subst e1;subst e2;have hv:val q=a / b:=by rw[h2,Nat.pow_zero,Nat.mul_one]
  refine AW.freeze 11 rfl (AW.to [(6,.d (aF q)),(7,.d (aF (lim (a % b))))] [] (.cons (eH (by simp[h1]) rfl) .di) .nil ?_)
  refine AW.rg hE rfl (ai rfl (cl (D6 hq (by omega)) rfl vL ?_))
  rw[hv];exact ai rfl (aC rfl (aC rfl (OL.nil (AW.ret (aO.r ⟨_,.tmp rfl (.tmp rfl .nil),_,.cons (.le vR) (.cons (.le vR) .nil),rfl⟩)))))
theorem JB {a b:Nat}(na:(lim a).length<=1099511627776)(nb:(lim b).length<=1099511627776):aj P F.wJ [.d (aF (lim a)),.d (aF (lim b))] (.d (aF (lim (Nat.gcd a b)))):=by
 refine aj.intro fn.wJ (by rfl) (by rfl) (aA (by rfl)) λE hE=>(AW.sg hE rfl (jg rfl (OL.nil (AW.seq (AW.block ?_)))))
 refine AW.aU (α:=Nat × Nat) [(4,_)] [] (λ(x,y)=>[(0,.d (aF (lim x))),(1,.d (aF (lim y)))]) (λ(x,y)=>[]) (λ(x,y)=>Nat.gcd x y=Nat.gcd a b/\(lim x).length<=1099511627776/\(lim y).length<=1099511627776) (λ(x,y)=>y) (a,b) (.cons (AO rfl) .nil) .nil ⟨⟨rfl,na,nb⟩,.gy,.nil⟩ ?_
 rintro⟨x,y⟩ ⟨h1,h2,h3⟩
 refine AW.seq (AW.sg hE rfl (ai rfl (fJ sl.aF rfl rfl (gV rfl rfl rfl (OL.nil (AW.cond rfl (λh=>?_) (λh=>?_)))))))
 .have hy:y≠0:=λe=>by have:=kK h;rw[e,dR] at this;exact absurd this (by decide)
  have hml:(lim (x % y)).length<=1099511627776:=Nat.le_trans (rF (Nat.mod_le x y)) h2;refine AW.skip (AW.block (AW.sg hE rfl (ai rfl (ai rfl (bF rfl .gy (F7 (by assumption) (by assumption) (by assumption)) (yu rfl (ex rfl rfl ?_)))))))
  refine ex rfl rfl (aC rfl (aC rfl (OL.nil (AW.rg hE rfl (ai rfl (ai rfl (aC rfl ?_)))))));exact aC rfl (OL.nil (AW.again (x:=(x,y)) (y,x % y) (by exact Nat.mod_lt _ (Nat.pos_of_ne_zero hy)) ⟨⟨by rw[<- h1,Nat.gcd_comm y,<- Nat.gcd_rec,Nat.gcd_comm],h3,hml⟩,Knows.app .di .gy,.nil⟩))
 .have hy:y=0:=by have:=lD h;exact dF.1 (by omega)
  exact AW.exit (AW.sg hE rfl (ai rfl (aC rfl (OL.nil (AW.ret (aO.r ⟨_,.tmp rfl .nil,.le (aB (by rw[<- h1,hy,Nat.gcd_zero_right];rfl))⟩))))))
theorem D7 {L:List Nat}(hL:iT L):aj P F.A7 [.d (aF L)] (.d (dB (decide (L=[1])))):=by
 refine aj.intro fn.A7 (by rfl) (by rfl) (aA (by rfl)) λE hE=>(AW.sg hE rfl (aC rfl (OL.nil (AW.sg hE rfl (ai rfl (fJ sl.aF rfl rfl (dG rfl rfl rfl ?_)))))))
 refine ai rfl (OL.split 6 rfl (λg6=>?_) (λg6=>?_))
 .try simp only[eG] at g6
  refine OL.yes rfl (ai rfl (OL.yes rfl (QS 0 sl.aF 0 rfl rfl rfl (by omega) rfl rfl (OL.yes rfl (iE ce.u32 rfl (OL.yes rfl (dG rfl rfl rfl ?_)))))))
  exact lJ rfl rfl (aC rfl (OL.nil (AW.ret (aO.r ⟨_,.tmp rfl .nil,.le (bG.bool (by have e:=XA hL;exact decide_eq_decide.2 ⟨λh=>e.2 ⟨by omega,by omega⟩,λh=>by have:=(e.1 h).2;omega⟩))⟩))))
 .try simp only[eG] at g6
  exact OL.nd rfl (OL.nd rfl (OL.nd rfl (OL.nd rfl (jZ rfl rfl (aC rfl (OL.nil (AW.ret (aO.r ⟨_,.tmp rfl .nil,.le (bG.bool (by have e:=XA hL;exact (decide_eq_false λh=>by have:=(e.1 h).1;omega).symm))⟩))))))))
theorem XH {n:Nat}:aj P F.A7 [.d (aF (lim n))] (.d (dB (decide (n=1)))):=by
 have h:=D7 (aZ n);rw[show decide (lim n=[1])=decide (n=1) from decide_eq_decide.2 FY] at h;exact h

/-
  Walks of the reference's numbers, part 2: division (printed by mk2.py).
-/
import Derived.Test.YtanlenlmihoiiaaGreatDoorKRatB
set_option linter.unusedVariables false
set_option linter.unusedSimpArgs false
namespace Go.Proofs.YtanlenlmihoiiaaGreatDoor
open Go Go.AL
theorem FX {L:List Nat}(hL:jr L)(hn:L.length<=8796093022208):ai P F.ES [.d (aH L)] (.d (aH (lim (val L)))):=by
 refine ai.intro fn.ES (by rfl) (by rfl) (ay (by rfl)) λE hE=>(AW.sg hE rfl (jK rfl (OL.nil (AW.seq (AW.block (AW.aY (α:=List Nat) [(2,_)] [] (λA=>[(0,.d (aH A))]) (λA=>[]) (λA=>jr A/\val A=val L/\A.length<=L.length) (λA=>A.length) L (.cons (xK rfl) .nil) .nil ⟨⟨hL,rfl,Nat.le_refl _⟩,.dD,.nil⟩ ?_))))))
 rintro A ⟨hA,hv,hl⟩
 refine AW.seq (AW.sg hE rfl (aj rfl (fF sl.aH rfl rfl (jI rfl rfl rfl (aj rfl (OL.split 6 rfl (λg6=>?_) (λg6=>?_)))))))
 .try simp only[fD] at g6
  refine OL.yes rfl (aj rfl (OL.yes rfl (aj rfl (OL.yes rfl (fF sl.aH rfl rfl (OL.yes rfl (iZ rfl rfl (by omega) ?_)))))))
  refine OL.yes rfl (ixL sl.aH 0 rfl rfl (by omega) (by omega) rfl rfl (OL.yes rfl (iE ce.u32 rfl (OL.yes rfl (fG rfl rfl rfl (oK rfl rfl (OL.nil ?_)))))))
  refine AW.cond rfl (λCO=>?_) (λCO=>?_)
  .try simp only[fD] at CO
   refine AW.skip (AW.block (AW.rg hE rfl (aj rfl (aj rfl (fF sl.aH rfl rfl (iZ rfl rfl (by omega) (ah6 sl.aH rfl rfl (λ_=>rfl) (by omega) (l2:=A.dropLast) (by rw[List.dropLast_eq_take];congr 1;omega) ?_)))))))
   refine aF rfl (OL.nil ?_);exact AW.again (x:=A) A.dropLast (by rw[List.length_dropLast];omega) ⟨⟨hA.dropLast,by rw[<- hv,Jg (by omega) (by rw[AV] at CO;omega)],by rw[List.length_dropLast];omega⟩,Knows.app .dD .dD,.nil⟩
  .try simp only[fD] at CO
   exact AW.exit (AW.sg hE rfl (aj rfl (aF rfl (OL.nil (AW.ret (aP.r ⟨_,.tmp rfl .nil,.le (au (by rw[<- hv,Uo hA (ZT (by omega) (by rw[AV] at CO;omega))];rfl))⟩))))))
 .try simp only[fD] at g6
  refine OL.nd rfl (OL.nd rfl (OL.nd rfl (OL.nd rfl (OL.nd rfl (OL.nd rfl (OL.nd rfl (oI rfl rfl ?_)))))));refine OL.nil (oH rfl ?_);exact AW.exit (AW.sg hE rfl (aj rfl (aF rfl (OL.nil (AW.ret (aP.r ⟨_,.tmp rfl .nil,.le (au (by rw[<- hv,au5 (L:=A) (by omega),jw,eY];rfl))⟩))))))
theorem MC {v:Nat}(hv:v<18446744073709551616):ai P F.yC [.d (dU v)] (.d (aH (lim v))):=by
 refine ai.intro fn.yC (by rfl) (by rfl) (ay (by rfl)) λE hE=>(AW.sg hE rfl (jK rfl (OL.nil (AW.sg hE rfl (aj rfl (cv it.u64 it.u32 rfl (c:=((v % 4294967296:Nat):Int)) (by rw[iy];omega) (aj rfl ?_)))))))
 refine LU rfl rfl rfl (cv it.u64 it.u32 rfl (c:=((v / 4294967296:Nat):Int)) (by rw[iy];omega) (lt2 sl.aH (VC.d _).vd (VC.d _).vd ⟨rfl,rfl⟩ (by decide) (cl (FX (L:=[v % 4294967296,v / 4294967296]) (.cons (by omega) (.cons (by omega) .nil)) (by simp)) rfl vL ?_)))
 rw[show val [v % 4294967296,v / 4294967296]=v by simp only[jy,jw];omega]
 exact aF rfl (OL.nil (AW.ret (aP.r ⟨_,.tmp rfl .nil,.le vR⟩)))
theorem V7 {v:Int}:ai P F.EU [.d (dI v)] (.d (dI (VR v))):=by
 refine ai.intro fn.EU (by rfl) (by rfl) (ay (by rfl)) λE hE=>(AW.sg hE rfl (aF rfl (OL.nil (AW.seq (AW.block (AW.sg hE rfl (aj rfl ?_)))))))
 refine bG rfl rfl rfl (aF rfl (OL.nil (AW.cond rfl (λh3=>?_) (λh3=>?_))))
 .try simp only[fD] at h3
  exact AW.sg hE rfl (aF rfl (OL.nil (AW.ret (aP.r ⟨_,.tmp rfl .nil,.le (bW.int (by unfold VR;rw[if_pos h3]))⟩))))
 .try simp only[fD] at h3
  refine AW.sg hE rfl (aj rfl (jI rfl rfl rfl (aF rfl (OL.nil (AW.cond rfl (λh6=>?_) (λh6=>?_))))))
  .try simp only[fD] at h6
   exact AW.sg hE rfl (aF rfl (OL.nil (AW.ret (aP.r ⟨_,.tmp rfl .nil,.le (bW.int (by unfold VR;rw[if_neg h3,if_pos h6]))⟩))))
  .try simp only[fD] at h6
   exact AW.skip (AW.sg hE rfl (aF rfl (OL.nil (AW.ret (aP.r ⟨_,.tmp rfl .nil,.le (bW.int (by unfold VR;rw[if_neg h3,if_neg h6]))⟩)))))
theorem MF {a b:Nat}(na:(lim a).length<=8796093022208)(nb:(lim b).length<=8796093022208):ai P F.yE [.d (aH (lim a)),.d (aH (lim b))] (.d (dI (Fv a b))):=by
 refine ai.intro fn.yE (by rfl) (by rfl) (ay (by rfl)) λE hE=>(AW.sg hE rfl (aF rfl (OL.nil (AW.seq (AW.sg hE rfl (aj rfl (fF sl.aH rfl rfl ?_)))))))
 refine aj rfl (fF sl.aH rfl rfl (eX rfl rfl rfl (OL.nil (AW.cond rfl (λh10=>?_) (λh10=>?_)))))
 .try simp only[fD] at h10
  refine AW.sg hE rfl (aj rfl (fF sl.aH rfl rfl (aj rfl (fF sl.aH rfl rfl (iZ rfl rfl (by omega) (bH rfl .dD (V7) (aF rfl ?_)))))))
  exact OL.nil (AW.ret (aP.r ⟨_,.tmp rfl .nil,.le (au (by rw[aM7 (by omega)];rfl))⟩))
 .try simp only[fD] at h10
  refine AW.skip (AW.seq (AW.sg hE rfl (aj rfl (fF sl.aH rfl rfl (iZ rfl rfl (by omega) (aF rfl (OL.nil ?_)))))))
  refine AW.block ?_;refine AW.aY (α:=Nat) [(0,_),(1,_)] [] (λn=>[(5,.d (dI ((n:Int)-1)))]) (λn=>[]) (λn=>n<=(lim a).length/\∀ j,n<=j->(lim a).getD j 0=(lim b).getD j 0) (λn=>n) (lim a).length (.cons (di rfl) (.cons (di rfl) .nil)) .nil ⟨⟨Nat.le_refl _,λj hj=>by rw[AU (by omega),AU (by omega)]⟩,.dD,.nil⟩ ?_
  rintro n ⟨hn,hh⟩
  refine AW.seq (AW.sg hE rfl (aj rfl (qX rfl rfl rfl (OL.nil (AW.cond rfl (λh=>?_) (λh=>?_))))))
  .have h:=lK h;have e1:((n:Int)-1).toNat=n-1:=by omega
   have hx:=(bP a).getD (n-1);have hy:=(bP b).getD (n-1);refine AW.skip (AW.seq (AW.block (AW.seq (AW.dg 1 [0,1,2,3,4,5,6,7,8] ak hE rfl (by kernel_rfl) (OI.aK (os:=[_,_,_,_,_,_,_,_,_]) rfl ?_)))))
   refine aj rfl (aj rfl (Ux (n-1) sl.aH 0 rfl rfl (by omega) (by omega) rfl rfl (iE ce.u32 rfl (aj rfl (aj rfl (Ux (n-1) sl.aH 0 rfl rfl (by omega) (by omega) rfl rfl (iE ce.u32 rfl ?_)))))))
   refine eX rfl rfl rfl (OL.nil (AW.cond rfl (λhne=>?_) (λhne=>?_)))
   .have hne:(lim a).getD (n-1) 0≠(lim b).getD (n-1) 0:=by have:=BI hne;omega
    refine AW.seq (AW.dg 1 [0,1,2,3,4,5,6,7,8,9,10,11,12] ak hE rfl (by kernel_rfl) (OI.aK (os:=[_,_,_,_,_,_,_,_,_,_,_,_,_]) rfl ?_))
    refine aj rfl (aj rfl (Ux (n-1) sl.aH 0 rfl rfl (by omega) (by omega) rfl rfl (iE ce.u32 rfl (cv it.u32 it.int rfl (wrap_i64 (by omega)) (aj rfl (aj rfl (Ux (n-1) sl.aH 0 rfl rfl (by omega) (by omega) rfl rfl ?_)))))))
    exact iE ce.u32 rfl (cv it.u32 it.int rfl (wrap_i64 (by omega)) (iZ rfl rfl (by omega) (bH rfl .dD (V7) (aF rfl (OL.nil (AW.ret (aP.r ⟨_,.tmp rfl .nil,.le (bW.int (by rw[aM8 (au6 (bP a) (bP b) (i:=n-1) (λj hj=>hh j (by omega)) hne) hne,bQ,bQ]))⟩)))))))
   .have hne:(lim a).getD (n-1) 0=(lim b).getD (n-1) 0:=by have:=yY hne;omega
    refine AW.skip (AW.rg hE rfl (aj rfl (iZ rfl rfl (by omega) (aF rfl (OL.nil ?_)))))
    exact AW.again (x:=n) (n-1) (by omega) ⟨⟨by omega,λj hj=>by rcases Nat.lt_or_ge j n with hj2|hj2;(have:j=n-1:=by omega);rw[this];omega;exact hh j hj2⟩,Knows.app .iW (.cons (bW.int (by omega)) .nil),.nil⟩
  .have h:=nZ h;exact AW.exit (AW.sg hE rfl (aF rfl (OL.nil (AW.ret (aP.r ⟨_,.tmp rfl .nil,.le (bW.int (by have h:=Ro (bP a) (bP b) λj=>hh j (by omega);rw[bQ,bQ] at h;subst h;simp[Fv]))⟩)))))
theorem Ju {L:List Nat}{i:Nat}(hL:jr L):ai P F.ET [.d (aH L),.d (dI i)] (.d (dU (L.getD i 0))):=by
 refine ai.intro fn.ET (by rfl) (by rfl) (ay (by rfl)) λE hE=>(AW.sg hE rfl (aF rfl (OL.nil (AW.seq (AW.sg hE rfl (aj rfl (aj rfl ?_)))))))
 refine fF sl.aH rfl rfl (qX rfl rfl rfl (OL.nil (AW.cond rfl (λh8=>?_) (λh8=>?_))))
 .try simp only[fD] at h8
  exact AW.sg hE rfl (aF rfl (OL.nil (AW.ret (aP.r ⟨_,.tmp rfl .nil,.le (bW.int (by rw[AU (by omega)];rfl))⟩))))
 .try simp only[fD] at h8
  refine AW.skip (AW.sg hE rfl (aj rfl (aj rfl (dR sl.aH 0 rfl rfl (by omega) rfl rfl (iE ce.u32 rfl (cv it.u32 it.u64 rfl (wrap_u64 ⟨by omega,by have:=hL.getD i;omega⟩) (aF rfl ?_)))))))
  exact OL.nil (AW.ret (aP.r ⟨_,.tmp rfl .nil,.le vR⟩))
theorem ax9 {A C:List Nat}(hA:jr A)(hC:jr C)(nA:A.length<=4398046511104)(nC:C.length<=4398046511104):ai P F.Be [.d (aH A),.d (aH C)] (.d (aH (lim (val A+val C)))):=by
 refine ai.intro fn.Be (by rfl) (by rfl) (ay (by rfl)) λE hE=>(AW.sg hE rfl (jK rfl (OL.nil (AW.sg hE rfl (jK rfl (OL.nil (AW.sg hE rfl ?_)))))))
 refine aF rfl (OL.nil (AW.seq (AW.sg hE rfl (aF rfl (OL.nil (AW.own 5 31 T.u32 1 rfl rfl (AW.block ?_)))))));refine AW.aY (α:=Nat × List Nat × Nat × Nat × Nat) [(0,_),(1,_),(4,_)] [] (λ(i,out,sum,b,c)=>[(5,.bI 31 b out.length c),(6,.d (dU sum)),(7,.d (dI i))]) (λ(i,out,sum,b,c)=>[(31,.row b c T.u32 1 (out.map BH))]) (λ(i,out,sum,b,c)=>out.length=i/\jr out/\val out+Bp i*sum=val (A.take i)+val (C.take i)/\sum<=1/\i<=max A.length C.length+1) (λ(i,out,sum,b,c)=>max A.length C.length+1-i) (0,[],0,0,0) (.cons (di rfl) (.cons (di rfl) (.cons (xK rfl) .nil))) .nil ⟨⟨rfl,jr.nil,rfl,by omega,by omega⟩,.yU,.cons rfl .nil⟩ ?_
 rintro⟨i,out,sum,b,c⟩ ⟨h1,hO,h2,h3,h4⟩
 refine AW.seq (AW.sg hE rfl (aj rfl (aj rfl (fF sl.aH rfl rfl (aj rfl (fF sl.aH rfl rfl (mx rfl rfl (c:=((max A.length C.length:Nat):Int)) (by omega) ?_)))))))
 refine yM rfl rfl rfl (OL.nil (AW.cond rfl (λh15=>?_) (λh15=>?_)))
 .try simp only[fD] at h15
  refine AW.skip (AW.seq (AW.block (AW.seq ?_)));have hx:=hA.getD i;have hy:=hC.getD i;refine AW.rg hE rfl (aj rfl (aj rfl (bH rfl .iW (Ju (by assumption)) (aj rfl (aj rfl (bH rfl .iW (Ju (by assumption)) (xY rfl rfl (by omega) ?_)))))))
  refine aj rfl (xY rfl rfl (by omega) (aF rfl (OL.nil (AW.rg hE rfl (iU rfl (aj rfl (cv it.u64 it.u32 rfl (c:=(((sum+(A.getD i 0+C.getD i 0)) % 4294967296:Nat):Int)) (by rw[iy];omega) ?_)))))))
  refine rF sl.aH (VC.d _).vd rfl (by decide) ?_
  refine xZ sl.aH rfl rfl rfl (by simp) (VC.d _) (by simp[D.cells]) (by simp;omega) (by simp;omega) (.inr rfl) (ys:=(out++[(sum+(A.getD i 0+C.getD i 0)) % 4294967296]).map BH) (by simp) (n2:=(out++[(sum+(A.getD i 0+C.getD i 0)) % 4294967296]).length) (by simp) λb2 c2=>?_
  refine aj rfl (LU rfl rfl rfl (pV rfl (aF rfl (OL.nil (AW.rg hE rfl (aj rfl (aI rfl rfl (by omega) ?_)))))))
  refine aF rfl (OL.nil ?_);exact AW.again (x:=(i,out,sum,b,c)) (i+1,out++[(sum+(A.getD i 0+C.getD i 0)) % 4294967296],(sum+(A.getD i 0+C.getD i 0)) / 4294967296,b2,c2) (by (simp only[];omega)) ⟨⟨by simp[h1],hO.append (.cons (Nat.mod_lt _ (by decide)) .nil),by rw[AO,h1,fO hA,fO hC];exact Rq h2,by omega,by omega⟩,Knows.app .yU (.cons vR (.cons (bW.int (by omega)) .dD)),.cons rfl .nil⟩
 .try simp only[fD] at h15
  refine AW.exit (AW.seq ?_);have hv:val out=val A+val C:=aw4 hA hC (by omega) h1 h2
  refine AW.freeze 31 rfl (AW.to [(5,.d (aH out))] [] (.cons (dP (by simp) rfl) .nil) .nil ?_)
  exact AW.rg hE rfl (aj rfl (bH rfl .dD (FX (by assumption) (by omega)) (aF rfl (OL.nil (AW.ret (aP.r ⟨_,.tmp rfl .nil,.le (au (by rw[<- hv];rfl))⟩))))))
theorem aj9 {A C:List Nat}(hA:jr A)(hC:jr C)(nA:A.length<=8796093022208)(hle:val C<=val A):ai P F.yR [.d (aH A),.d (aH C)] (.d (aH (lim (val A-val C)))):=by
 refine ai.intro fn.yR (by rfl) (by rfl) (ay (by rfl)) λE hE=>(AW.sg hE rfl (jK rfl (OL.nil (AW.sg hE rfl (jK rfl (OL.nil (AW.sg hE rfl ?_)))))))
 refine aF rfl (OL.nil (AW.seq (AW.sg hE rfl (aF rfl (OL.nil (AW.own 5 29 T.u32 1 rfl rfl (AW.block ?_)))))));refine AW.aY (α:=Nat × List Nat × Nat × Nat × Nat) [(0,_),(1,_),(4,_)] [] (λ(i,out,less,b,c)=>[(5,.bI 29 b out.length c),(6,.d (dU less)),(7,.d (dI i))]) (λ(i,out,less,b,c)=>[(29,.row b c T.u32 1 (out.map BH))]) (λ(i,out,less,b,c)=>out.length=i/\jr out/\val (A.take i)+less*Bp i=val out+val (C.take i)/\less<=1/\i<=A.length) (λ(i,out,less,b,c)=>A.length-i) (0,[],0,0,0) (.cons (di rfl) (.cons (di rfl) (.cons (xK rfl) .nil))) .nil ⟨⟨rfl,jr.nil,by simp[jw],by omega,by omega⟩,.yU,.cons rfl .nil⟩ ?_
 rintro⟨i,out,less,b,c⟩ ⟨h1,hO,h2,h3,h4⟩
 refine AW.seq (AW.sg hE rfl (aj rfl (aj rfl (fF sl.aH rfl rfl (bG rfl rfl rfl (OL.nil (AW.cond rfl (λh12=>?_) (λh12=>?_))))))))
 .try simp only[fD] at h12
  refine AW.skip (AW.seq (AW.block (AW.seq ?_)));have hx:=hA.getD i;have hy:=hC.getD i;refine AW.rg hE rfl (aj rfl (aj rfl (bH rfl .iW (Ju (by assumption)) (xY rfl rfl (by omega) (aj rfl (aj rfl (bH rfl .iW (Ju (by assumption)) ?_)))))))
  refine Nw rfl rfl (by omega) (aj rfl (Nw rfl rfl (by omega) (aF rfl (OL.nil (AW.rg hE rfl (iU rfl (aj rfl ?_)))))))
  refine cv it.u64 it.u32 rfl (c:=(((A.getD i 0+4294967296-C.getD i 0-less) % 4294967296:Nat):Int)) (by rw[iy];omega) (rF sl.aH (VC.d _).vd rfl (by decide) ?_)
  refine xZ sl.aH rfl rfl rfl (by simp) (VC.d _) (by simp[D.cells]) (by simp;omega) (by simp;omega) (.inr rfl) (ys:=(out++[(A.getD i 0+4294967296-C.getD i 0-less) % 4294967296]).map BH) (by simp) (n2:=(out++[(A.getD i 0+4294967296-C.getD i 0-less) % 4294967296]).length) (by simp) λb2 c2=>?_
  refine aj rfl (LU rfl rfl rfl (Nw rfl rfl (by omega) (pV rfl (aF rfl (OL.nil (AW.rg hE rfl (aj rfl ?_)))))))
  refine aI rfl rfl (by omega) (aF rfl (OL.nil ?_))
  exact AW.again (x:=(i,out,less,b,c)) (i+1,out++[(A.getD i 0+4294967296-C.getD i 0-less) % 4294967296],if A.getD i 0<C.getD i 0+less then 1 else 0,b2,c2) (by (simp only[];omega)) ⟨⟨by simp[h1],hO.append (.cons (Nat.mod_lt _ (by decide)) .nil),by rw[fO hA,fO hC,AO,h1];exact Oz h2 hx hy h3,by split <;> omega,by omega⟩,Knows.app .yU (.cons vR (.cons (bW.int (by split <;> omega)) .dD)),.cons rfl .nil⟩
 .try simp only[fD] at h12
  refine AW.exit (AW.seq ?_);have hv:val out=val A-val C:=Rt hA hO (by omega) hle (by rw[uD (A:=out) (by omega)];rw[show i=A.length by omega] at h2;exact h2) h3 hC
  refine AW.freeze 29 rfl (AW.to [(5,.d (aH out))] [] (.cons (dP (by simp) rfl) .nil) .nil ?_)
  exact AW.rg hE rfl (aj rfl (bH rfl .dD (FX (by assumption) (by omega)) (aF rfl (OL.nil (AW.ret (aP.r ⟨_,.tmp rfl .nil,.le (au (by rw[<- hv];rfl))⟩))))))
theorem ak0 {A C:List Nat}(hA:jr A)(hC:jr C)(nA:A.length<=4398046511104)(nC:C.length<=4398046511104):ai P F.yQ [.d (aH A),.d (aH C)] (.d (aH (lim (val A*val C)))):=by
 refine ai.intro fn.yQ (by rfl) (by rfl) (ay (by rfl)) λE hE=>(AW.sg hE rfl (jK rfl (OL.nil (AW.sg hE rfl (aj rfl (fF sl.aH rfl rfl (aj rfl ?_)))))))
 refine fF sl.aH rfl rfl (bo rfl rfl (qf (c:=((A.length+C.length:Nat):Int)) (by omega) (wrap_i64 (by omega))) (X4 BH 0 sl.aH z.u32 (.cons (VC.d _) .nil) rfl rfl (Nat.le_refl _) (by omega) (by omega) rfl λb=>(pV rfl (OL.nil (AW.seq (AW.sg hE rfl (aF rfl ?_)))))))
 refine OL.nil (AW.block ?_);refine AW.aY (α:=Nat × List Nat) [(0,_),(1,_),(4,_)] [] (λ(i,out)=>[(5,.bI 15 b (A.length+C.length) (A.length+C.length)),(6,.d (dI i))]) (λ(i,out)=>[(15,.row b (A.length+C.length) T.u32 1 (out.map BH))]) (λ(i,out)=>out.length=A.length+C.length/\jr out/\val out=val (A.take i)*val C/\i<=A.length/\∀ j,i+C.length<=j->out.getD j 0=0) (λ(i,out)=>A.length-i) (0,List.replicate (A.length+C.length) 0) (.cons (di rfl) (.cons (di rfl) (.cons (xK rfl) .nil))) .nil ⟨⟨by simp,jr.zeros _,by simp[jw,Gw],by omega,λj _=>YE _ j⟩,.iW,.cons rfl .nil⟩ ?_
 rintro⟨i,UA⟩ ⟨h1,hO0,h2,h3,h4⟩
 refine AW.seq (AW.sg hE rfl (aj rfl (aj rfl (fF sl.aH rfl rfl (bG rfl rfl rfl (OL.nil (AW.cond rfl (λh19=>?_) (λh19=>?_))))))))
 .try simp only[fD] at h19
  refine AW.skip (AW.seq (AW.block (AW.sg hE rfl (aF rfl (OL.nil (AW.seq (AW.sg hE rfl ?_)))))));refine aF rfl (OL.nil (AW.block ?_));refine AW.aY (α:=Nat × List Nat × Nat) [(0,_),(1,_),(4,_),(6,_)] [] (λ(j,out,sum)=>[(5,.bI 15 b (A.length+C.length) (A.length+C.length)),(7,.d (dU sum)),(8,.d (dI j))]) (λ(j,out,sum)=>[(15,.row b (A.length+C.length) T.u32 1 (out.map BH))]) (λ(j,out,sum)=>out.length=A.length+C.length/\jr out/\val out+sum*Bp (i+j)=val (A.take i)*val C+A.getD i 0*Bp i*val (C.take j)/\sum<=4294967295/\j<=C.length/\∀ k,i+C.length<=k->out.getD k 0=0) (λ(j,out,sum)=>C.length-j) (0,UA,0) (.cons (di rfl) (.cons (di rfl) (.cons (xK rfl) (.cons (di rfl) .nil)))) .nil ⟨⟨h1,hO0,by simp[jw,h2],by omega,by omega,h4⟩,.yU,.cons rfl .nil⟩ ?_
  rintro⟨j,out,sum⟩ ⟨g1,hO,g2,g3,g4,g6⟩
  refine AW.seq (AW.sg hE rfl (aj rfl (aj rfl (fF sl.aH rfl rfl (bG rfl rfl rfl (OL.nil (AW.cond rfl (λh25=>?_) (λh25=>?_))))))))
  .try simp only[fD] at h25
   refine AW.skip (AW.seq (AW.block (AW.seq ?_)));have ha:=hA.getD i;have hc2:=hC.getD j;have ho:=hO.getD (i+j);have hp:A.getD i 0*C.getD j 0<=4294967295*4294967295:=Nat.mul_le_mul (by omega) (by omega)
   have st1:val (out.set (i+j) ((sum+(out.getD (i+j) 0+A.getD i 0*C.getD j 0)) % 4294967296))+(sum+(out.getD (i+j) 0+A.getD i 0*C.getD j 0)) / 4294967296*Bp (i+(j+1))=val (A.take i)*val C+A.getD i 0*Bp i*val (C.take (j+1)):=by
    rw[fO hC];exact OA (by omega) g2 rfl
   refine AW.dg 1 [0,1,2,3,4,5,6,7,8,9,10,11,12,13,14,15,16,17,18,19,20,21] ak hE rfl (by kernel_rfl) (OI.aK (os:=[_,_,_,_,_,_,_,_,_,_,_,_,_,_,_,_,_,_,_,_,_,_]) rfl ?_)
   refine aj rfl (aj rfl (dR sl.aH 0 rfl rfl (by omega) rfl rfl (iE ce.u32 rfl (cv it.u32 it.u64 rfl (wrap_u64 (by omega)) (aj rfl (aj rfl (dR sl.aH 0 rfl rfl (by omega) rfl rfl ?_)))))))
   refine iE ce.u32 rfl (cv it.u32 it.u64 rfl (wrap_u64 (by omega)) (bo rfl rfl (Ny (c:=((A.getD i 0*C.getD j 0:Nat):Int)) (by rw[Int.natCast_mul]) (wrap_u64 (by omega))) (iU rfl (aj rfl (aj rfl (aI rfl rfl (by omega) (Ri sl.aH rfl rfl (by omega) (by omega) (i:=i+j) (by omega) ?_)))))))
   refine Yo ce.u32 0 (by decide) rfl rfl (by omega) rfl (cv it.u32 it.u64 rfl (wrap_u64 (by omega)) (xY rfl rfl (by omega) (aj rfl (xY rfl rfl (by omega) (aF rfl (OL.nil (AW.rg hE rfl ?_)))))))
   refine iU rfl (aj rfl (aj rfl (aI rfl rfl (by omega) (aj rfl (cv it.u64 it.u32 rfl (c:=(((sum+(out.getD (i+j) 0+A.getD i 0*C.getD j 0)) % 4294967296:Nat):Int)) (by rw[iy];omega) (aj rfl (LU rfl rfl rfl ?_)))))))
   refine Ri sl.aH rfl rfl (by omega) (by omega) (i:=i+j) (by omega) (LQ sz.u32 rfl (VC.d _).vd rfl rfl (by simp;omega) (es2:=(out.set (i+j) ((sum+(out.getD (i+j) 0+A.getD i 0*C.getD j 0)) % 4294967296)).map BH) (by rw[List.map_set]) (aF rfl (OL.nil (AW.rg hE rfl (aj rfl (aI rfl rfl (by omega) (aF rfl ?_)))))))
   refine OL.nil ?_;exact AW.again (x:=(j,out,sum)) (j+1,out.set (i+j) ((sum+(out.getD (i+j) 0+A.getD i 0*C.getD j 0)) % 4294967296),(sum+(out.getD (i+j) 0+A.getD i 0*C.getD j 0)) / 4294967296) (by (simp only[];omega)) ⟨⟨by simp[g1],hO.set _ (Nat.mod_lt _ (by decide)),st1,by omega,by omega,aw5 g6 (by omega)⟩,Knows.app .LV (.cons vR (.cons (bW.int (by omega)) .dD)),.cons rfl .nil⟩
  .try simp only[fD] at h25
   refine AW.exit (AW.rg hE rfl (iU rfl (aj rfl (aj rfl (fF sl.aH rfl rfl (aI rfl rfl (by omega) (aj rfl ?_)))))))
   refine cv it.u64 it.u32 rfl (c:=(sum:Int)) (by rw[iy];omega) (Ri sl.aH rfl rfl (by omega) (by omega) (i:=i+C.length) (by omega) (LQ sz.u32 rfl (VC.d _).vd rfl rfl (by simp;omega) (es2:=(out.set (i+C.length) sum).map BH) (by rw[List.map_set]) (OL.nil (AW.rg hE rfl (aj rfl (aI rfl rfl (by omega) (aF rfl ?_)))))))
   refine OL.nil ?_;exact AW.again (x:=(i,UA)) (i+1,out.set (i+C.length) sum) (by (simp only[];omega)) ⟨⟨by simp[g1],hO.set _ (by omega),aM9 hA (by omega) (g6 _ (Nat.le_refl _)) (by rw[show j=C.length by omega] at g2;exact g2),by omega,λk hk=>by rw[Go.AL.getD_set_ne (by omega)];exact g6 k (by omega)⟩,Knows.app .yU .iW,.cons rfl .nil⟩
 .try simp only[fD] at h19
  refine AW.exit (AW.seq ?_);have hv:val UA=val A*val C:=by rw[h2,uD (by omega)]
  refine AW.freeze 15 rfl (AW.to [(5,.d (aH UA))] [] (.cons (dP (by simp[h1]) rfl) .nil) .nil ?_)
  exact AW.rg hE rfl (aj rfl (bH rfl .dD (FX (by assumption) (by omega)) (aF rfl (OL.nil (AW.ret (aP.r ⟨_,.tmp rfl .nil,.le (au (by rw[<- hv];rfl))⟩))))))
theorem KI {a b:Nat}(na:(lim a).length<=4398046511104)(nb:(lim b).length<=4398046511104):ai P F.Be [.d (aH (lim a)),.d (aH (lim b))] (.d (aH (lim (a+b)))):=by
 have h:=ax9 (bP a) (bP b) na nb;rw[bQ,bQ] at h;exact h
theorem Iy {a b:Nat}(na:(lim a).length<=8796093022208)(hle:b<=a):ai P F.yR [.d (aH (lim a)),.d (aH (lim b))] (.d (aH (lim (a-b)))):=by
 have h:=aj9 (bP a) (bP b) na (by rw[bQ,bQ];exact hle)
 rw[bQ,bQ] at h;exact h
theorem vC {a b:Nat}(na:(lim a).length<=4398046511104)(nb:(lim b).length<=4398046511104):ai P F.yQ [.d (aH (lim a)),.d (aH (lim b))] (.d (aH (lim (a*b)))):=by
 have h:=ak0 (bP a) (bP b) na nb;rw[bQ,bQ] at h;exact h
theorem Int.Nk (m:Nat):((2 ^ m:Nat):Int)=2 ^ m:=by rw[Int.natCast_pow];rfl
theorem V8 (m:Nat):2 ^ (m % 32)<4294967296:=Nat.pow_lt_pow_right (m:=m % 32) (n:=32) (by decide) (Nat.mod_lt _ (by decide))
theorem aO3 (m:Nat):((2 ^ (m % 32):Nat):Int)<=4294967295:=by have:=V8 m;omega
theorem Iz {a b:Nat}(hb:b≠0)(na:(lim a).length<=1099511627776)(nb:(lim b).length<=1099511627776):ai P F.zQ [.d (aH (lim a)),.d (aH (lim b))] (.mM [.d (aH (lim (a / b))),.d (aH (lim (a % b)))]):=by
 refine ai.intro fn.zQ (by rfl) (by rfl) (ay (by rfl)) λE hE=>(AW.sg hE rfl (jK rfl (jK rfl (OL.nil (AW.sg hE rfl (aj rfl (fF sl.aH rfl rfl ?_)))))))
 refine X4 BH 0 sl.aH z.u32 (.cons (VC.d _) .nil) rfl rfl (Nat.le_refl _) (by omega) (by omega) rfl λb11=>(pV rfl (OL.nil (AW.sg hE rfl (jK rfl (OL.nil (AW.seq (AW.sg hE rfl ?_)))))))
 refine aj rfl (fF sl.aH rfl rfl (Uk rfl rfl (by omega) (iZ rfl rfl (by omega) (aF rfl (OL.nil (AW.block ?_))))))
 refine AW.aY (α:=Nat × List Nat × Nat × Nat) [(0,_),(1,_),(4,_),(5,_)] [] (λ(n,q,r,Q)=>[(6,.bI 11 b11 (lim a).length (lim a).length),(7,.d (aH (lim r))),(8,.d (dI ((n:Int)-1)))]) (λ(n,q,r,Q)=>[(11,.row b11 (lim a).length T.u32 1 (q.map BH))]) (λ(n,q,r,Q)=>q.length=(lim a).length/\jr q/\val q=Q*2 ^ n/\a / 2 ^ n=Q*b+r/\r<b/\n<=32*(lim a).length) (λ(n,q,r,Q)=>n) (32*(lim a).length,List.replicate (lim a).length 0,0,0) (.cons (di rfl) (.cons (di rfl) (.cons (xK rfl) (.cons (xK rfl) .nil)))) .nil ⟨⟨by simp,jr.zeros _,by rw[Gw,Nat.zero_mul],by rw[ai9,Nat.zero_mul],by omega,Nat.le_refl _⟩,.cons vR (.cons (by rw[eY];exact bW.mt) .dD),.cons rfl .nil⟩ ?_
 rintro⟨n,q,r,Q⟩ ⟨h1,hq,h2,h3,h4,h5⟩
 refine AW.seq (AW.sg hE rfl (aj rfl (qX rfl rfl rfl (OL.nil (AW.cond rfl (λh=>?_) (λh=>?_))))))
 .have h:=lK h;obtain⟨m,rfl⟩:∃ m,n=m+1:=⟨n-1,by omega⟩
  have hmi:((m+1:Nat):Int)-1=(m:Int):=by omega
  have hrl:=uo (Nat.le_of_lt h4);have ht:a / 2 ^ m % 2<2:=Nat.mod_lt _ (by decide)
  have hds:=aw6 (i:=m) (Nat.pos_of_ne_zero hb) h3 h4;have hr2:=uo (show r+r+a / 2 ^ m % 2<=b+b by omega)
  have hr3:=uo (show r+r<=b+b by omega)
  have hbb:=Z7 b b;refine AW.skip (AW.seq (AW.block (AW.sg hE rfl (aj rfl (aj rfl (bH rfl .iW (KI (by omega) (by omega)) (aF rfl ?_)))))))
  refine OL.nil ?_;refine AW.YC (α:=Unit) [(0,_),(1,_),(4,_),(5,_),(6,_),(8,_)] [(11,_)] (λ_u=>[(7,.d (aH (lim (r+r+a / 2 ^ m % 2))))]) (λ_u=>[]) (λ_u=>True) (.cons (di rfl) (.cons (di rfl) (.cons (xK rfl) (.cons (xK rfl) (.cons (zA rfl) (.cons (di rfl) .nil)))))) (.cons (qZ rfl) .nil) ?_ ?_
  .refine AW.sg hE rfl (aj rfl (aj rfl (bo rfl rfl (bl3 m 32 hmi (by omega) (by decide)) (dR sl.aH 0 rfl rfl (by omega) rfl rfl (iE ce.u32 rfl (aj rfl (bo rfl rfl (bl4 m 32 hmi (by decide)) ?_)))))))
   refine cv it.int it.uint rfl (wrap_u64 (by omega)) (aL9 rfl rfl ⟨Int.natCast_nonneg _,by rw[Int.toNat_natCast];have:m % 32<32:=Nat.mod_lt _ (by decide);exact Nat.le_of_lt this⟩ (by rw[Int.toNat_natCast,Jd]) (bo rfl rfl (av8 (Nat.lt_of_le_of_lt (Nat.div_le_self ..) ((bP a).getD _))) ?_))
   rw[ba8 (bP a),bQ];refine fG rfl rfl rfl (OL.nil (AW.cond rfl (λh33=>?_) (λh33=>?_)))
   .try simp only[fD] at h33
    refine AW.rg hE rfl (aj rfl (rF sl.aH (VC.d _).vd rfl (by decide) (cl (KI (b:=1) (by omega) (by have:=sJ (g:=1) (by decide);omega)) rfl (.cons vR (.cons (au (by rw[xI (n:=1) (by decide) (by decide)];rfl)) .nil)) (aF rfl (OL.nil ?_)))))
    exact AW.reach () ⟨trivial,Knows.app .ZR (.cons (au (by rw[show a / 2 ^ m % 2=1 by omega];rfl)) .nil),dL.app (.cons rfl .nil) (.nil)⟩
   .try simp only[fD] at h33
    refine AW.skip ?_;exact AW.reach () ⟨trivial,Knows.app .ZR (.cons (au (by rw[show a / 2 ^ m % 2=0 by omega];rfl)) .nil),dL.app (.cons rfl .nil) (.nil)⟩
  rintro⟨⟩ hφ
  refine AW.sg hE rfl (aj rfl (aj rfl (cl (MF (by omega) (by omega)) rfl vL (qX rfl rfl rfl (OL.nil (AW.cond rfl (λh40=>?_) (λh40=>?_)))))))
  .have h40:b<=r+r+a / 2 ^ m % 2:=Jh (by have:=lK h40;omega)
   have hsb:=aN0 (i:=m) (by omega) hq h2
   refine AW.sg hE rfl (aj rfl (aj rfl (bH rfl .iW (Iy (by omega) (by assumption)) (aF rfl (OL.nil (AW.rg hE rfl (iU rfl ?_)))))))
   refine aj rfl (bo rfl rfl (bl3 m 32 hmi (by omega) (by decide)) (jv sl.aH rfl rfl (by omega) (Yo ce.u32 0 (by decide) rfl rfl (by omega) rfl (aj rfl (bo rfl rfl (bl4 m 32 hmi (by decide)) (cv it.int it.uint rfl (wrap_u64 (by omega)) ?_))))))
   refine bk8 rfl rfl ⟨Int.natCast_nonneg _,by rw[Int.toNat_natCast];have:m % 32<32:=Nat.mod_lt _ (by decide);exact Nat.le_of_lt this⟩ (c:=((2 ^ (m % 32):Nat):Int)) (by rw[Int.toNat_natCast,Int.one_mul,<- Int.Nk,wrap_u32 ⟨Int.natCast_nonneg _,aO3 m⟩]) ?_
   refine bo rfl rfl (ba5 (hq.getD _) (V8 m)) (jv sl.aH rfl rfl (by omega) (LQ sz.u32 rfl (VC.d _).vd rfl rfl (by simp;omega) (es2:=(q.set (m / 32) (q.getD (m / 32) 0 ||| 2 ^ (m % 32))).map BH) (by rw[List.map_set]) (OL.nil (AW.rg hE rfl (aj rfl (iZ rfl rfl (by omega) (aF rfl ?_)))))))
   refine OL.nil ?_;exact AW.again (x:=(m+1,q,r,Q)) (m,q.set (m / 32) (q.getD (m / 32) 0 ||| 2 ^ (m % 32)),r+r+a / 2 ^ m % 2-b,2*Q+1) (by (simp only[];omega)) ⟨⟨by simp[h1],hsb.2,hsb.1,(hds.2 h40).1,(hds.2 h40).2,by omega⟩,Knows.app .LV (.cons vR (.cons vR (.cons (bW.int (by omega)) .nil))),.cons rfl .nil⟩
  .have h40:r+r+a / 2 ^ m % 2<b:=by have:=nZ h40;rcases Nat.lt_or_ge (r+r+a / 2 ^ m % 2) b with h|h;exact h;exact absurd (Yx h) this
   refine AW.skip (AW.rg hE rfl (aj rfl (iZ rfl rfl (by omega) (aF rfl (OL.nil ?_)))))
   exact AW.again (x:=(m+1,q,r,Q)) (m,q,r+r+a / 2 ^ m % 2,2*Q) (by (simp only[];omega)) ⟨⟨h1,hq,by rw[h2,Nat.pow_succ,Nat.mul_comm 2 Q,Nat.mul_assoc,Nat.mul_comm 2],hds.1 h40,h40,by omega⟩,Knows.app .LV (.cons vR (.cons vR (.cons (bW.int (by omega)) .nil))),.cons rfl .nil⟩
 .have h:=nZ h;refine AW.exit (AW.seq ?_);obtain rfl:n=0:=by omega
  obtain⟨e1,e2⟩:=aN1 h3 h4;subst e1;subst e2;have hv:val q=a / b:=by rw[h2,Nat.pow_zero,Nat.mul_one]
  refine AW.freeze 11 rfl (AW.to [(6,.d (aH q)),(7,.d (aH (lim (a % b))))] [] (.cons (dP (by simp[h1]) rfl) .dD) .nil ?_)
  refine AW.rg hE rfl (aj rfl (cl (FX hq (by omega)) rfl vL ?_))
  rw[hv];exact aj rfl (aF rfl (aF rfl (OL.nil (AW.ret (aP.r ⟨_,.tmp rfl (.tmp rfl .nil),_,.cons (.le vR) (.cons (.le vR) .nil),rfl⟩)))))
theorem MG {a b:Nat}(na:(lim a).length<=1099511627776)(nb:(lim b).length<=1099511627776):ai P F.yF [.d (aH (lim a)),.d (aH (lim b))] (.d (aH (lim (Nat.gcd a b)))):=by
 refine ai.intro fn.yF (by rfl) (by rfl) (ay (by rfl)) λE hE=>(AW.sg hE rfl (jK rfl (OL.nil (AW.seq (AW.block ?_)))))
 refine AW.aY (α:=Nat × Nat) [(4,_)] [] (λ(x,y)=>[(0,.d (aH (lim x))),(1,.d (aH (lim y)))]) (λ(x,y)=>[]) (λ(x,y)=>Nat.gcd x y=Nat.gcd a b/\(lim x).length<=1099511627776/\(lim y).length<=1099511627776) (λ(x,y)=>y) (a,b) (.cons (xK rfl) .nil) .nil ⟨⟨rfl,na,nb⟩,.iW,.nil⟩ ?_
 rintro⟨x,y⟩ ⟨h1,h2,h3⟩
 refine AW.seq (AW.sg hE rfl (aj rfl (fF sl.aH rfl rfl (jI rfl rfl rfl (OL.nil (AW.cond rfl (λh=>?_) (λh=>?_)))))))
 .have hy:y≠0:=λe=>by have:=lK h;rw[e,eY] at this;exact absurd this (by decide)
  have hml:(lim (x % y)).length<=1099511627776:=Nat.le_trans (uo (Nat.mod_le x y)) h2;refine AW.skip (AW.block (AW.sg hE rfl (aj rfl (aj rfl (bH rfl .iW (Iz (by assumption) (by assumption) (by assumption)) (Di rfl (ex rfl rfl ?_)))))))
  refine ex rfl rfl (aF rfl (aF rfl (OL.nil (AW.rg hE rfl (aj rfl (aj rfl (aF rfl ?_)))))));exact aF rfl (OL.nil (AW.again (x:=(x,y)) (y,x % y) (by exact Nat.mod_lt _ (Nat.pos_of_ne_zero hy)) ⟨⟨by rw[<- h1,Nat.gcd_comm y,<- Nat.gcd_rec,Nat.gcd_comm],h3,hml⟩,Knows.app .dD .iW,.nil⟩))
 .have hy:y=0:=by have:=nZ h;exact dO.1 (by omega)
  exact AW.exit (AW.sg hE rfl (aj rfl (aF rfl (OL.nil (AW.ret (aP.r ⟨_,.tmp rfl .nil,.le (au (by rw[<- h1,hy,Nat.gcd_zero_right];rfl))⟩))))))
theorem FY {L:List Nat}(hL:jr L):ai P F.Dy [.d (aH L)] (.d (dB (decide (L=[1])))):=by
 refine ai.intro fn.Dy (by rfl) (by rfl) (ay (by rfl)) λE hE=>(AW.sg hE rfl (aF rfl (OL.nil (AW.sg hE rfl (aj rfl (fF sl.aH rfl rfl (fG rfl rfl rfl ?_)))))))
 refine aj rfl (OL.split 6 rfl (λg6=>?_) (λg6=>?_))
 .try simp only[fD] at g6
  refine OL.yes rfl (aj rfl (OL.yes rfl (Ux 0 sl.aH 0 rfl rfl rfl (by omega) rfl rfl (OL.yes rfl (iE ce.u32 rfl (OL.yes rfl (fG rfl rfl rfl ?_)))))))
  exact oK rfl rfl (aF rfl (OL.nil (AW.ret (aP.r ⟨_,.tmp rfl .nil,.le (bW.bool (by have e:=aa1 hL;exact decide_eq_decide.2 ⟨λh=>e.2 ⟨by omega,by omega⟩,λh=>by have:=(e.1 h).2;omega⟩))⟩))))
 .try simp only[fD] at g6
  exact OL.nd rfl (OL.nd rfl (OL.nd rfl (OL.nd rfl (oI rfl rfl (aF rfl (OL.nil (AW.ret (aP.r ⟨_,.tmp rfl .nil,.le (bW.bool (by have e:=aa1 hL;exact (decide_eq_false λh=>by have:=(e.1 h).1;omega).symm))⟩))))))))
theorem ab4 {n:Nat}:ai P F.Dy [.d (aH (lim n))] (.d (dB (decide (n=1)))):=by
 have h:=FY (bP n);rw[show decide (lim n=[1])=decide (n=1) from decide_eq_decide.2 Iq] at h;exact h

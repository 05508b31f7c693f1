/-
  Walks of package rational, part 2: products, single limbs, shifts, the number of bits (printed by mk.py).
-/
import Derived.Test.YtanlenlmihoiiaaGreatDoorKHdr
set_option linter.unusedVariables false
set_option linter.unusedSimpArgs false
namespace Go.Proofs.YtanlenlmihoiiaaGreatDoor
open Go Go.AL
theorem OU {L:List Nat}{i:Int}(hL:jr L)(hi:0<=i):ai P F.nO [.d (aH L),.d (dI i)] (.d (dU (L.getD i.toNat 0))):=by
 refine ai.intro fn.nO (by rfl) (by rfl) (ay (by rfl)) λE hE=>(AW.sg hE rfl (aF rfl (OL.nil (AW.seq (AW.sg hE rfl (aj rfl (aj rfl ?_)))))))
 refine fF sl.limbs rfl rfl (bG rfl rfl rfl (OL.nil (AW.cond rfl (λh=>?_) (λh=>?_))))
 .have h:=lK h;refine AW.sg hE rfl (aj rfl (aj rfl (ixL sl.limbs 0 rfl rfl (by omega) (by omega) rfl rfl (iE ce.u32 rfl (cv it.u32 it.u64 rfl (wrap_u64 ⟨by omega,by have:=hL.getD i.toNat;omega⟩) (aF rfl (OL.nil ?_)))))))
  exact AW.ret (aP.r ⟨_,.tmp rfl .nil,.le vR⟩)
 .have h:=nZ h;exact AW.skip (AW.sg hE rfl (aF rfl (OL.nil (AW.ret (aP.r ⟨_,.tmp rfl .nil,.le (bW.int (by rw[jh,List.getElem?_eq_none (by omega)];rfl))⟩)))))
theorem o8 {L:List Nat}{i:Nat}(hL:jr L):ai P F.nO [.d (aH L),.d (dI i)] (.d (dU (L.getD i 0))):=OU hL (Int.natCast_nonneg i)
theorem lJ {L:List Nat}(hL:jr L)(hn:L.length<=8796093022208):ai P F.nM [.d (aH L)] (.d (aH (lim (val L)))):=by
 refine ai.intro fn.nM (by rfl) (by rfl) (ay (by rfl)) λE hE=>(AW.sg hE rfl (jK rfl (OL.nil (AW.seq (AW.block (AW.while (α:=List Nat) (λA=>[(0,.d (aH A))]) (λA=>[]) (λA=>jr A/\val A=val L/\A.length<=L.length) (λA=>A.length) L ⟨⟨hL,rfl,Nat.le_refl _⟩,.dD,.nil⟩ ?_))))))
 rintro A ⟨hA,hv,hl⟩
 refine AW.seq (AW.sg hE rfl (aj rfl (fF sl.limbs rfl rfl (jI rfl rfl rfl (OL.split 5 rfl (λh0=>?_) (λh0=>?_))))))
 .have h0:=lK h0;refine aj rfl (OL.yes rfl (aj rfl (OL.yes rfl (aj rfl (OL.yes rfl (fF sl.limbs rfl rfl (OL.yes rfl ?_)))))));refine iZ rfl rfl (by omega) (OL.yes rfl (ixL sl.limbs 0 rfl rfl (by omega) (by omega) rfl rfl (OL.yes rfl (iE ce.u32 rfl (OL.yes rfl (fG rfl rfl rfl (OL.split 13 rfl (λh=>?_) (λh=>?_))))))))
  .have h:=lK h;refine oK rfl rfl (OL.nil (Hr rfl ?_));refine AW.skip (AW.block (AW.rg hE rfl (aj rfl (aj rfl (fF sl.limbs rfl rfl (iZ rfl rfl (by omega) (ah6 sl.limbs rfl rfl (λ_=>rfl) (by omega) (l2:=A.dropLast) (by rw[List.dropLast_eq_take];congr 1;omega) ?_)))))))
   exact aF rfl (OL.nil (AW.again (x:=A) A.dropLast (by rw[List.length_dropLast];omega) ⟨⟨hA.dropLast,by rw[<- hv,Jg (by omega) (by rw[AV] at h;omega)],by rw[List.length_dropLast];omega⟩,.dD,.nil⟩))
  .have h:=nZ h;refine oK rfl rfl (OL.nil (oH rfl ?_));exact AW.exit (AW.sg hE rfl (aj rfl (aF rfl (OL.nil (AW.ret (aP.r ⟨_,.tmp rfl .nil,.le (au (by rw[<- hv,Uo hA (ZT (by omega) (by rw[AV] at h;omega))];rfl))⟩))))))
 .have h0:=nZ h0;refine aj rfl (OL.nd rfl (OL.nd rfl (OL.nd rfl (OL.nd rfl (OL.nd rfl (OL.nd rfl (OL.nd rfl ?_)))))));refine oI rfl rfl (OL.nil (oH rfl ?_));exact AW.exit (AW.sg hE rfl (aj rfl (aF rfl (OL.nil (AW.ret (aP.r ⟨_,.tmp rfl .nil,.le (au (by rw[<- hv,au5 (L:=A) (by omega),jw,eY];rfl))⟩))))))
theorem Ac {A C:List Nat}(hA:jr A)(hC:jr C)(nA:A.length<=8796093022208)(nC:C.length<=8796093022208):ai P F.qC [.d (aH A),.d (aH C)] (.d (dI (Fv (val A) (val C)))):=by
 refine ai.intro fn.qC (by rfl) (by rfl) (ay (by rfl)) λE hE=>(AW.sg hE rfl (aF rfl (OL.nil (AW.seq (AW.sg hE rfl (aj rfl (fF sl.limbs rfl rfl ?_)))))))
 refine aj rfl (fF sl.limbs rfl rfl (mx rfl rfl (c:=((max A.length C.length:Nat):Int)) (by omega) (iZ rfl rfl (by omega) (aF rfl (OL.nil (AW.block ?_))))))
 refine AW.while (α:=Nat) (λn=>[(0,.d (aH A)),(1,.d (aH C)),(5,.d (dI ((n:Int)-1)))]) (λn=>[]) (λn=>n<=max A.length C.length/\∀ j,n<=j->A.getD j 0=C.getD j 0) (λn=>n) (max A.length C.length) ⟨⟨Nat.le_refl _,λj hj=>by rw[AU (by omega),AU (by omega)]⟩,.yU,.nil⟩ ?_
 rintro n ⟨hn,hh⟩
 refine AW.seq (AW.sg hE rfl (aj rfl (qX rfl rfl rfl (OL.nil (AW.cond rfl (λh=>?_) (λh=>?_))))))
 .have h:=lK h;refine AW.skip (AW.seq (AW.block (AW.seq ?_)));have e1:((n:Int)-1).toNat=n-1:=by omega
  have hx:=hA.getD (n-1);have hy:=hC.getD (n-1);refine AW.rg hE rfl (aj rfl (aj rfl (cl (OU hA (by omega)) rfl vL ?_)))
  rw[e1];refine aj rfl (aj rfl (cl (OU hC (by omega)) rfl vL ?_))
  rw[e1];refine aF rfl (aF rfl (OL.nil (AW.sg hE rfl (aj rfl (aj rfl (eX rfl rfl rfl (OL.nil ?_)))))));refine AW.cond rfl (λhne=>?_) (λhne=>?_)
  .have hne:=BI hne;refine AW.sg hE rfl (aj rfl (aj rfl (Oy rfl rfl rfl (aY0 rfl rfl rfl (cv it.u64 it.int rfl (wrap_i64 (by omega)) (Uk rfl rfl (by omega) (iZ rfl rfl (by omega) ?_)))))))
   exact aF rfl (OL.nil (AW.ret (aP.r ⟨_,.tmp rfl .nil,.le (bW.int (by rw[au6 hA hC (i:=n-1) (λj hj=>hh j (by omega)) (by omega)];split <;> omega))⟩)))
  .have hne:A.getD (n-1) 0=C.getD (n-1) 0:=by have:=yY hne;omega
   exact AW.skip (AW.rg hE rfl (aj rfl (iZ rfl rfl (by omega) (aF rfl (OL.nil (AW.again (x:=n) (n-1) (by omega) ⟨⟨by omega,λj hj=>by rcases Nat.lt_or_ge j n with hj2|hj2;(have:j=n-1:=by omega);rw[this];exact hne;exact hh j hj2⟩,.cons vR (.cons vR (.cons (bW.int (by omega)) .nil)),.nil⟩))))))
 .have h:=nZ h;exact AW.exit (AW.sg hE rfl (aF rfl (OL.nil (AW.ret (aP.r ⟨_,.tmp rfl .nil,.le (bW.int (by rw[Ro hA hC λj=>hh j (by omega)];simp[Fv]))⟩)))))
theorem YN {A C:List Nat}(hA:jr A)(hC:jr C)(nA:A.length<=4398046511104)(nC:C.length<=4398046511104):ai P F.oQ [.d (aH A),.d (aH C)] (.d (aH (lim (val A+val C)))):=by
 refine ai.intro fn.oQ (by rfl) (by rfl) (ay (by rfl)) λE hE=>(AW.sg hE rfl (jK rfl (OL.nil (AW.sg hE rfl (jK rfl (OL.nil (AW.sg hE rfl ?_)))))))
 refine aF rfl (OL.nil (AW.seq (AW.sg hE rfl (aF rfl (OL.nil (AW.own 5 34 T.u32 1 rfl rfl (AW.block ?_)))))));refine AW.while (α:=Nat × List Nat × Nat × Nat × Nat) (λ(i,out,sum,b,c)=>[(0,.d (aH A)),(1,.d (aH C)),(5,.bI 34 b out.length c),(6,.d (dU sum)),(7,.d (dI i))]) (λ(i,out,sum,b,c)=>[(34,.row b c T.u32 1 (out.map BH))]) (λ(i,out,sum,b,c)=>out.length=i/\jr out/\val out+Bp i*sum=val (A.take i)+val (C.take i)/\sum<=1/\i<=max A.length C.length+1/\(i=max A.length C.length+1->sum=0)) (λ(i,out,sum,b,c)=>max A.length C.length+1-i) (0,[],0,0,0) ⟨⟨rfl,jr.nil,rfl,by omega,by omega,by omega⟩,.Ky,.cons rfl .nil⟩ ?_
 rintro⟨i,out,sum,b,c⟩ ⟨h1,hO,h2,h3,h4,h5⟩
 refine AW.seq ?_;refine AW.mid (α:=Unit) (λ_u=>[(0,.d (aH A)),(1,.d (aH C)),(5,.bI 34 b out.length c),(6,.d (dU sum)),(7,.d (dI i)),(18,.d (dB (decide (i<max A.length C.length \/ 0<sum))))]) (λ_u=>[(34,.row b c T.u32 1 (out.map BH))]) (λ_u=>True) ?_ ?_
 .refine AW.rg hE rfl (aj rfl (aj rfl (fF sl.limbs rfl rfl (aj rfl (fF sl.limbs rfl rfl (mx rfl rfl (c:=((max A.length C.length:Nat):Int)) (by omega) (bG rfl rfl rfl ?_)))))))
  refine OL.split 14 rfl (λhi=>?_) (λhi=>?_)
  .have hi:=lK hi;exact aj rfl (OL.nd rfl (OL.nd rfl (oK rfl rfl (OL.nil (AW.reach () ⟨trivial,.cons vR (.cons vR (.cons vR (.cons vR (.cons vR (.cons (bW.bool (by simp;omega)) .nil))))),.cons rfl .nil⟩)))))
  .have hi:=nZ hi;exact aj rfl (OL.yes rfl (aj rfl (OL.yes rfl (jI rfl rfl rfl (oI rfl rfl (OL.nil (AW.reach () ⟨trivial,.cons vR (.cons vR (.cons vR (.cons vR (.cons vR (.cons (bW.bool (by simp;omega)) .nil))))),.cons rfl .nil⟩)))))))
 rintro⟨⟩ -
 refine AW.cond rfl (λh=>?_) (λh=>?_)
 .have h:=lK h;refine AW.skip (AW.seq (AW.block (AW.seq ?_)));have hx:=hA.getD i;have hy:=hC.getD i;refine AW.rg hE rfl (aj rfl (aj rfl (aj rfl (cl (o8 hA) rfl vL (aj rfl (aj rfl (cl (o8 hC) rfl vL ?_)))))));refine xY rfl rfl (by omega) (xY rfl rfl (by omega) (aF rfl (OL.nil (AW.sg hE rfl (iU rfl (aj rfl (cv it.u64 it.u32 rfl (c:=(((sum+(A.getD i 0+C.getD i 0)) % 4294967296:Nat):Int)) (by rw[iy];omega) ?_)))))))
  refine rF sl.limbs (VC.d _).vd rfl (by decide) ?_
  refine xZ sl.limbs rfl rfl rfl (by simp) (VC.d _) (by simp[D.cells]) (by simp;omega) (by simp;omega) (.inr rfl) (ys:=(out++[(sum+(A.getD i 0+C.getD i 0)) % 4294967296]).map BH) (by simp) (n2:=(out++[(sum+(A.getD i 0+C.getD i 0)) % 4294967296]).length) (by simp) λb2 c2=>?_
  refine pV rfl (OL.nil (AW.rg hE rfl (aj rfl (LU rfl rfl rfl (aF rfl (OL.nil (AW.rg hE rfl ?_)))))));refine aj rfl (aI rfl rfl (by omega) (aF rfl (OL.nil ?_)))
  exact AW.again (x:=(i,out,sum,b,c)) (i+1,out++[(sum+(A.getD i 0+C.getD i 0)) % 4294967296],(sum+(A.getD i 0+C.getD i 0)) / 4294967296,b2,c2) (by (simp only[];omega)) ⟨⟨by simp[h1],hO.append (.cons (Nat.mod_lt _ (by decide)) .nil),by rw[AO,h1,fO hA,fO hC];exact Rq h2,by omega,by omega,λe=>by rw[AU (A:=A) (by omega),AU (A:=C) (by omega)];omega⟩,.Ky,.cons rfl .nil⟩
 .have h:=nZ h;refine AW.exit (AW.seq ?_);have hv:val out=val A+val C:=by
   have:=h2;rw[uD (A:=A) (by omega),uD (A:=C) (by omega),show sum=0 by omega] at this
   simpa using this
  refine AW.freeze 34 rfl (AW.to [(5,.d (aH out))] [] (.cons (dP (by simp) rfl) .nil) .nil ?_)
  exact AW.rg hE rfl (aj rfl (cl (lJ hO (by omega)) rfl vL (aF rfl (OL.nil (AW.ret (aP.r ⟨_,.tmp rfl .nil,.le (au (by rw[<- hv];rfl))⟩))))))
theorem CG {A C:List Nat}(hA:jr A)(hC:jr C)(nA:A.length<=8796093022208)(hle:val C<=val A):ai P F.nN [.d (aH A),.d (aH C)] (.d (aH (lim (val A-val C)))):=by
 refine ai.intro fn.nN (by rfl) (by rfl) (ay (by rfl)) λE hE=>(AW.sg hE rfl (jK rfl (OL.nil (AW.sg hE rfl (aj rfl (fF sl.limbs rfl rfl (X4 BH 0 sl.limbs z.u32 (.cons (VC.d _) .nil) rfl rfl (Nat.le_refl _) (by omega) (by omega) rfl λb11=>?_)))))))
 refine pV rfl (OL.nil (AW.sg hE rfl (aF rfl (OL.nil (AW.seq (AW.sg hE rfl (aj rfl ?_)))))));refine fF sl.limbs rfl rfl (aj rfl (OL.nil (AW.block ?_)));refine AW.while (α:=Nat × List Nat × Nat) (λ(i,out,less)=>[(0,.d (aH A)),(1,.d (aH C)),(5,.bI 11 b11 A.length A.length),(6,.d (dU less)),(13,.d (dI A.length)),(14,.d (dI i))]) (λ(i,out,less)=>[(11,.row b11 A.length T.u32 1 (out.map BH))]) (λ(i,out,less)=>out.length=A.length/\jr out/\val (A.take i)+less*Bp i=val (out.take i)+val (C.take i)/\less<=1/\i<=A.length) (λ(i,out,less)=>A.length-i) (0,List.replicate A.length 0,0) ⟨⟨by simp,jr.zeros _,by simp[jw],by omega,by omega⟩,.ZR,.cons rfl .nil⟩ ?_
 rintro⟨i,out,less⟩ ⟨h1,hO,h2,h3,h4⟩
 refine AW.sg hE rfl (bG rfl rfl rfl (OL.nil (AW.seq (AW.cond rfl (λh=>?_) (λh=>?_)))))
 .have h:=lK h;refine AW.skip (AW.seq (AW.block (AW.sg hE rfl (aj rfl (aF rfl (OL.nil (AW.seq ?_)))))));have hx:=hA.getD i;have hy:=hC.getD i;refine AW.rg hE rfl (aj rfl (aj rfl (cl (o8 hA) rfl vL (aj rfl (aj rfl (cl (o8 hC) rfl vL (Oy rfl rfl rfl ?_)))))));refine aj rfl (Oy rfl rfl rfl (aF rfl (OL.nil (AW.rg hE rfl (iU rfl (aj rfl (aj rfl ?_)))))));refine cv it.u64 it.u32 rfl (c:=(((A.getD i 0+4294967296-C.getD i 0-less) % 4294967296:Nat):Int)) (by rw[iy];omega) (aj rfl (aY0 rfl rfl rfl (jv sl.limbs rfl rfl (by omega) (LQ sz.u32 rfl (VC.d _).vd rfl rfl (by simp;omega) (es2:=(out.set i ((A.getD i 0+4294967296-C.getD i 0-less) % 4294967296)).map BH) (by rw[List.map_set]) (aF rfl (OL.nil (AW.rg hE rfl ?_)))))))
  refine aI rfl rfl (by omega) (aj rfl (OL.nil ?_))
  exact AW.again (x:=(i,out,less)) (i+1,out.set i ((A.getD i 0+4294967296-C.getD i 0-less) % 4294967296),if A.getD i 0<C.getD i 0+less then 1 else 0) (by (simp only[];omega)) ⟨⟨by simp[h1],hO.set _ (Nat.mod_lt _ (by decide)),by rw[fO hA,fO hC,fO (hO.set _ (Nat.mod_lt _ (by decide))),List.take_set_of_le (Nat.le_refl _),QV (by omega)];exact Oz h2 hx hy h3,by split <;> omega,by omega⟩,.cons vR (.cons vR (.cons vR (.cons (bW.int (by split <;> omega)) .iW))),.cons rfl .nil⟩
 .have h:=nZ h;refine AW.exit (AW.seq ?_);have hv:val out=val A-val C:=Rt hA hO h1 hle (by rw[show i=A.length by omega] at h2;exact h2) h3 hC
  refine AW.freeze 11 rfl (AW.to [(5,.d (aH out))] [] (.cons (dP (by simp[h1]) rfl) .nil) .nil ?_)
  exact AW.rg hE rfl (aj rfl (cl (lJ hO (by omega)) rfl vL (aF rfl (OL.nil (AW.ret (aP.r ⟨_,.tmp rfl .nil,.le (au (by rw[<- hv];rfl))⟩))))))
theorem pW {A C:List Nat}(hA:jr A)(hC:jr C)(nA:A.length<=4398046511104)(nC:C.length<=4398046511104):ai P F.nJ [.d (aH A),.d (aH C)] (.d (aH (lim (val A*val C)))):=by
 refine ai.intro fn.nJ (by rfl) (by rfl) (ay (by rfl)) λE hE=>(AW.sg hE rfl (jK rfl (OL.nil (AW.sg hE rfl (aj rfl (fF sl.limbs rfl rfl (aj rfl ?_)))))))
 refine fF sl.limbs rfl rfl (bo rfl rfl (qf (c:=((A.length+C.length:Nat):Int)) (by omega) (wrap_i64 (by omega))) (X4 BH 0 sl.limbs z.u32 (.cons (VC.d _) .nil) rfl rfl (Nat.le_refl _) (by omega) (by omega) rfl λb=>(pV rfl (OL.nil (AW.seq (AW.sg hE rfl (aj rfl ?_)))))))
 refine fF sl.limbs rfl rfl (aj rfl (OL.nil (AW.block ?_)));refine AW.while (α:=Nat × List Nat) (λ(i,out)=>[(0,.d (aH A)),(1,.d (aH C)),(5,.bI 14 b (A.length+C.length) (A.length+C.length)),(16,.d (dI A.length)),(17,.d (dI i))]) (λ(i,out)=>[(14,.row b (A.length+C.length) T.u32 1 (out.map BH))]) (λ(i,out)=>out.length=A.length+C.length/\jr out/\val out=val (A.take i)*val C/\i<=A.length) (λ(i,out)=>A.length-i) (0,List.replicate (A.length+C.length) 0) ⟨⟨by simp,jr.zeros _,by simp[jw,Gw],by omega⟩,.Ky,.cons rfl .nil⟩ ?_
 rintro⟨i,UA⟩ ⟨h1,hO0,h2,h3⟩
 refine AW.sg hE rfl (bG rfl rfl rfl (OL.nil (AW.seq (AW.cond rfl (λh=>?_) (λh=>?_)))))
 .have h:=lK h;refine AW.skip (AW.seq (AW.block (AW.sg hE rfl (aj rfl (aF rfl (OL.nil (AW.sg hE rfl ?_)))))));refine aF rfl (OL.nil (AW.sg hE rfl (aF rfl (OL.nil (AW.block ?_)))));refine AW.while (α:=Nat × List Nat × Nat) (λ(j,out,sum)=>[(0,.d (aH A)),(1,.d (aH C)),(5,.bI 14 b (A.length+C.length) (A.length+C.length)),(6,.d (dI i)),(7,.d (dU sum)),(8,.d (dI j)),(16,.d (dI A.length)),(17,.d (dI i))]) (λ(j,out,sum)=>[(14,.row b (A.length+C.length) T.u32 1 (out.map BH))]) (λ(j,out,sum)=>out.length=A.length+C.length/\jr out/\val out+sum*Bp (i+j)=val (A.take i)*val C+A.getD i 0*Bp i*val (C.take j)/\sum<=4294967295/\j<=C.length+1/\(j=C.length+1->sum=0)) (λ(j,out,sum)=>C.length+1-j) (0,UA,0) ⟨⟨h1,hO0,by simp[jw,h2],by omega,by omega,by omega⟩,.rq8,.cons rfl .nil⟩ ?_
  rintro⟨j,out,sum⟩ ⟨g1,hO,g2,g3,g4,g5⟩
  refine AW.seq ?_;refine AW.mid (α:=Unit) (λ_u=>[(0,.d (aH A)),(1,.d (aH C)),(5,.bI 14 b (A.length+C.length) (A.length+C.length)),(6,.d (dI i)),(7,.d (dU sum)),(8,.d (dI j)),(16,.d (dI A.length)),(17,.d (dI i)),(27,.d (dB (decide (j<C.length \/ 0<sum))))]) (λ_u=>[(14,.row b (A.length+C.length) T.u32 1 (out.map BH))]) (λ_u=>True) ?_ ?_
  .refine AW.rg hE rfl (aj rfl (aj rfl (fF sl.limbs rfl rfl (bG rfl rfl rfl (OL.split 23 rfl (λhj=>?_) (λhj=>?_))))))
   .have hj:=lK hj;exact aj rfl (OL.nd rfl (OL.nd rfl (oK rfl rfl (OL.nil (AW.reach () ⟨trivial,.cons vR (.cons vR (.cons vR (.cons vR (.cons vR (.cons vR (.cons vR (.cons vR (.cons (bW.bool (by simp;omega)) .nil)))))))),.cons rfl .nil⟩)))))
   .have hj:=nZ hj;exact aj rfl (OL.yes rfl (aj rfl (OL.yes rfl (jI rfl rfl rfl (oI rfl rfl (OL.nil (AW.reach () ⟨trivial,.cons vR (.cons vR (.cons vR (.cons vR (.cons vR (.cons vR (.cons vR (.cons vR (.cons (bW.bool (by simp;omega)) .nil)))))))),.cons rfl .nil⟩)))))))
  rintro⟨⟩ -
  refine AW.cond rfl (λhc=>?_) (λhc=>?_)
  .have hc:=lK hc;refine AW.skip (AW.seq (AW.block (AW.seq ?_)));have ha:=hA.getD i;have hc2:=hC.getD j;have ho:=hO.getD (i+j);have hp:A.getD i 0*C.getD j 0<=4294967295*4294967295:=Nat.mul_le_mul (by omega) (by omega)
   have st1:val (out.set (i+j) ((sum+(out.getD (i+j) 0+A.getD i 0*C.getD j 0)) % 4294967296))+(sum+(out.getD (i+j) 0+A.getD i 0*C.getD j 0)) / 4294967296*Bp (i+(j+1))=val (A.take i)*val C+A.getD i 0*Bp i*val (C.take (j+1)):=by
    rw[fO hC];exact OA (by omega) g2 rfl
   refine AW.dg 1 [0,1,2,3,4,5,6,7,8,9,10,11,12,13,14,15,16,17] ak hE rfl (by kernel_rfl) (OI.aK (os:=[_,_,_,_,_,_,_,_,_,_,_,_,_,_,_,_,_,_]) rfl ?_)
   refine aj rfl (iU rfl (aj rfl (aj rfl (aI rfl rfl (by omega) (Ri sl.limbs rfl rfl (by omega) (by omega) (i:=i+j) (by omega) (Yo ce.u32 0 (by decide) rfl rfl (by omega) rfl (cv it.u32 it.u64 rfl (wrap_u64 (by omega)) ?_)))))))
   refine aj rfl (aj rfl (cl (o8 hA) rfl vL (aj rfl (aj rfl (cl (o8 hC) rfl vL (aL8 rfl rfl (by omega) (xY rfl rfl (by omega) ?_)))))))
   refine xY rfl rfl (by omega) (aF rfl (OL.nil (AW.sg hE rfl (iU rfl (aj rfl (aj rfl (aI rfl rfl (by omega) ?_)))))))
   refine aj rfl (cv it.u64 it.u32 rfl (c:=(((sum+(out.getD (i+j) 0+A.getD i 0*C.getD j 0)) % 4294967296:Nat):Int)) (by rw[iy];omega) (Ri sl.limbs rfl rfl (by omega) (by omega) (i:=i+j) (by omega) (LQ sz.u32 rfl (VC.d _).vd rfl rfl (by simp;omega) (es2:=(out.set (i+j) ((sum+(out.getD (i+j) 0+A.getD i 0*C.getD j 0)) % 4294967296)).map BH) (by rw[List.map_set]) (OL.nil (AW.rg hE rfl (aj rfl (LU rfl rfl rfl ?_)))))))
   refine aF rfl (OL.nil (AW.rg hE rfl (aj rfl (aI rfl rfl (by omega) (aF rfl (OL.nil ?_))))))
   exact AW.again (x:=(j,out,sum)) (j+1,out.set (i+j) ((sum+(out.getD (i+j) 0+A.getD i 0*C.getD j 0)) % 4294967296),(sum+(out.getD (i+j) 0+A.getD i 0*C.getD j 0)) / 4294967296) (by (simp only[];omega)) ⟨⟨by simp[g1],hO.set _ (Nat.mod_lt _ (by decide)),st1,by omega,by omega,λe=>ah7 hA hC (j:=j+1) (by omega) st1 e.symm⟩,.rq8,.cons rfl .nil⟩
  .have hc:=nZ hc;refine AW.exit (AW.rg hE rfl (aI rfl rfl (by omega) (aj rfl (OL.nil ?_))))
   exact AW.again (x:=(i,UA)) (i+1,out) (by (simp only[];omega)) ⟨⟨g1,hO,Yr hA (j:=j) (by omega) (by rw[show sum=0 by omega] at g2;exact g2),by omega⟩,.Ky,.cons rfl .nil⟩
 .have h:=nZ h;refine AW.exit (AW.seq ?_);have hv:val UA=val A*val C:=by rw[h2,uD (by omega)]
  refine AW.freeze 14 rfl (AW.to [(5,.d (aH UA))] [] (.cons (dP (by simp[h1]) rfl) .nil) .nil ?_)
  exact AW.rg hE rfl (aj rfl (cl (lJ hO0 (by omega)) rfl vL (aF rfl (OL.nil (AW.ret (aP.r ⟨_,.tmp rfl .nil,.le (au (by rw[<- hv];rfl))⟩))))))
theorem V5 {A:List Nat}{d:Nat}(hA:jr A)(nA:A.length<=8796093022208)(h0:0<d)(hd:d<4294967296):ai P F.nR [.d (aH A),.d (BH d)] (.mM [.d (aH (lim (val A / d))),.d (BH (val A % d))]):=by
 refine ai.intro fn.nR (by rfl) (by rfl) (ay (by rfl)) λE hE=>(AW.sg hE rfl (jK rfl (aF rfl (OL.nil (AW.sg hE rfl (aj rfl (fF sl.limbs rfl rfl ?_)))))))
 refine X4 BH 0 sl.limbs z.u32 (.cons (VC.d _) .nil) rfl rfl (Nat.le_refl _) (by omega) (by omega) rfl λb=>(pV rfl (aF rfl (OL.nil (AW.seq (AW.sg hE rfl (aj rfl (fF sl.limbs rfl rfl ?_)))))))
 refine iZ rfl rfl (by omega) (aF rfl (OL.nil (AW.block ?_)))
 refine AW.while (α:=Nat × List Nat × Nat) (λ(n,out,r)=>[(0,.d (aH A)),(1,.d (BH d)),(6,.bI 11 b A.length A.length),(7,.d (dU r)),(8,.d (dI ((n:Int)-1)))]) (λ(n,out,r)=>[(11,.row b A.length T.u32 1 (out.map BH))]) (λ(n,out,r)=>out.length=A.length/\jr out/\val A / Bp n=val (out.drop n)*d+r/\r<d/\n<=A.length) (λ(n,out,r)=>n) (A.length,List.replicate A.length 0,0) ⟨⟨by simp,jr.zeros _,by rw[Nat.div_eq_of_lt (AP hA),List.drop_eq_nil_of_le (by simp),jw];omega,h0,Nat.le_refl _⟩,.Ky,.cons rfl .nil⟩ ?_
 rintro⟨n,out,r⟩ ⟨h1,hO,h2,h3,h4⟩
 refine AW.seq (AW.sg hE rfl (aj rfl (qX rfl rfl rfl (OL.nil (AW.cond rfl (λh=>?_) (λh=>?_))))))
 .have h:=lK h;refine AW.skip (AW.seq (AW.block (AW.seq ?_)));have ha:=hA.getD (n-1);have e1:((n:Int)-1).toNat=n-1:=by omega
  have hq:(r*4294967296+A.getD (n-1) 0) / d<4294967296:=Nat.div_lt_of_lt_mul (by have:=Nat.mul_le_mul_right 4294967296 (show r+1<=d from h3);omega)
  refine AW.rg hE rfl (aj rfl (au2 rfl rfl rfl (by omega) (aj rfl (aj rfl (ixL sl.limbs 0 rfl rfl (by omega) (by omega) rfl rfl ?_)))))
  rw[e1];refine iE ce.u32 rfl (cv it.u32 it.u64 rfl (wrap_u64 (by omega)) (orA (a:=r*4294967296) (b:=A.getD (n-1) 0) 32 r rfl rfl rfl (by omega) (by omega) (aF rfl (OL.nil (AW.sg hE rfl (iU rfl (aj rfl ?_)))))))
  refine aj rfl (aj rfl (cv it.u32 it.u64 rfl (wrap_u64 (by omega)) (bo rfl rfl (c:=.int .u64 (((r*4294967296+A.getD (n-1) 0) / d:Nat):Int)) (ZQ (by omega) (by omega)) (cv it.u64 it.u32 rfl (c:=(((r*4294967296+A.getD (n-1) 0) / d:Nat):Int)) (wrap_u32 ⟨Int.natCast_nonneg _,by generalize (r*4294967296+A.getD (n-1) 0) / d=q at hq ⊢;omega⟩) (Ri sl.limbs rfl rfl (by omega) (by omega) (i:=n-1) (by omega) (LQ sz.u32 rfl (VC.d _).vd rfl rfl (by simp;omega) (es2:=(out.set (n-1) ((r*4294967296+A.getD (n-1) 0) / d)).map BH) (by rw[List.map_set]) (OL.nil ?_)))))))
  refine AW.rg hE rfl (aj rfl (aj rfl (cv it.u32 it.u64 rfl (wrap_u64 (by omega)) (bo rfl rfl (c:=.int .u64 (((r*4294967296+A.getD (n-1) 0) % d:Nat):Int)) (aM0 (by omega)) (aF rfl (OL.nil (AW.rg hE rfl ?_)))))))
  refine aj rfl (iZ rfl rfl (by omega) (aF rfl (OL.nil ?_)))
  exact AW.again (x:=(n,out,r)) (n-1,out.set (n-1) ((r*4294967296+A.getD (n-1) 0) / d),(r*4294967296+A.getD (n-1) 0) % d) (by (simp only[];omega)) ⟨⟨by simp[h1],hO.set _ hq,by rw[Ia (by omega) (by omega)];exact Yt h0 hA (by omega) h2,Nat.mod_lt _ h0,by omega⟩,.cons vR (.cons vR (.cons vR (.cons vR (.cons (bW.int (by omega)) .nil)))),.cons rfl .nil⟩
 .have h:=nZ h;refine AW.exit (AW.seq ?_);have hv:val A=val out*d+r:=by have:=h2;rw[show n=0 by omega] at this;simpa [sH] using this
  have hu:=(Nat.div_mod_unique (a:=val A) (c:=r) (d:=val out) h0).2 ⟨by rw[Nat.mul_comm d];omega,h3⟩
  have hv1:val out=val A / d:=hu.1.symm;have hv2:r=val A % d:=hu.2.symm;refine AW.freeze 11 rfl (AW.to [(6,.d (aH out)),(7,.d (dU r))] [] (.cons (dP (by simp[h1]) rfl) .dD) .nil ?_)
  refine AW.rg hE rfl (aj rfl (cl (lJ hO (by omega)) rfl vL (aj rfl (cv it.u64 it.u32 rfl (c:=((r:Nat):Int)) (by rw[iy];omega) (aF rfl (aF rfl (OL.nil ?_)))))))
  exact AW.ret (aP.r ⟨_,.tmp rfl (.tmp rfl .nil),_,.cons (.le vR) (.cons (.le vR) .nil),by rw[<- hv1,<- hv2];rfl⟩)
theorem ax7 {x:Nat}(hx:x<4294967296):ai P F.uY [.d (BH x)] (.d (dI (rM x))):=by
 refine ai.intro fn.uY (by rfl) (by rfl) (ay (by rfl)) λE hE=>(AW.sg hE rfl (aF rfl (OL.nil (AW.mid (α:=Nat × Nat) (λ(y,s)=>[(0,.d (BH y)),(2,.d (dI s))]) (λ(y,s)=>[]) (λ(y,s)=>y<65536/\rM y+s=rM x/\s<=16) ?_ ?_))))
 .refine AW.sg hE rfl (aj rfl (qX rfl rfl rfl (OL.nil (AW.cond rfl (λh=>?_) (λh=>?_)))))
  .have h:=lK h;refine AW.sg hE rfl (aj rfl (aL9 rfl rfl ⟨by decide,by decide⟩ (c:=((x / 65536:Nat):Int)) (by show (x:Int) / 65536=_;omega) (aF rfl (OL.nil (AW.rg hE rfl (aF rfl (OL.nil ?_)))))))
   exact AW.reach (x / 65536,16) ⟨⟨by omega,Ip (k:=16) (by omega),by omega⟩,.iW,.nil⟩
  .have h:=nZ h;exact AW.skip (AW.reach (x,0) ⟨⟨by omega,rfl,by omega⟩,.iW,.nil⟩)
 rintro⟨y,s⟩ ⟨h1,h2,h2s⟩
 refine AW.mid (α:=Nat × Nat) (λ(z,t)=>[(0,.d (BH z)),(2,.d (dI t))]) (λ(z,t)=>[]) (λ(z,t)=>z<256/\rM z+t=rM x/\t<=24) ?_ ?_
 .refine AW.sg hE rfl (aj rfl (qX rfl rfl rfl (OL.nil (AW.cond rfl (λh8=>?_) (λh8=>?_)))))
  .have h8:=lK h8;refine AW.sg hE rfl (aj rfl (aL9 rfl rfl ⟨by decide,by decide⟩ (c:=((y / 256:Nat):Int)) (by show (y:Int) / 256=_;omega) (aF rfl (OL.nil (AW.rg hE rfl (aj rfl (aI rfl rfl (by omega) ?_)))))))
   exact aF rfl (OL.nil (AW.reach (y / 256,s+8) ⟨⟨by omega,by have:=Ip (x:=y) (k:=8) (by omega);rw[show y / 256=y / 2 ^ 8 from rfl];omega,by omega⟩,.iW,.nil⟩))
  .have h8:=nZ h8;exact AW.skip (AW.reach (y,s) ⟨⟨by omega,h2,by omega⟩,.iW,.nil⟩)
 rintro⟨z,t⟩ ⟨h3,h4,h4t⟩
 refine AW.seq ?_;have hz:=Gx (x:=z) (k:=8) (by omega)
 refine AW.rg hE rfl (aj rfl (aj rfl (cv it.u32 it.u8 rfl (c:=(z:Int)) (wrap_u8 (by omega)) (sAt st.str rfl rfl (q:=rM z) (tbl (by kernel_rfl) h3) (cv it.u8 it.int rfl (wrap_i64 (by omega)) (aI rfl rfl (by omega) (aF rfl ?_)))))))
 exact OL.nil (AW.ret (aP.r ⟨_,.tmp rfl .nil,.le (bW.int (by omega))⟩))
theorem aj8 {x:Nat}(hx:x<4294967296):ai P F.jX [.d (BH x)] (.d (dI (32-(rM x:Int)))):=by
 refine ai.intro fn.jX (by rfl) (by rfl) (ay (by rfl)) λE hE=>(AW.sg hE rfl (aF rfl (OL.nil (AW.seq ?_))))
 have h0:=Gx (x:=x) (k:=32) (by omega)
 exact AW.rg hE rfl (aj rfl (cl (ax7 hx) rfl vL (iZ rfl rfl (by omega) (aF rfl (OL.nil (AW.ret (aP.r ⟨_,.tmp rfl .nil,.le vR⟩)))))))

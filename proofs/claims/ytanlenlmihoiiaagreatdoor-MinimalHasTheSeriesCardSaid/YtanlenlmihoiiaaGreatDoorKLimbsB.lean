/-
  Walks of package rational, part 2: products, single limbs, shifts, the number of bits (printed by mk.py).
-/
import Derived.Test.YtanlenlmihoiiaaGreatDoorKHdr
set_option linter.unusedVariables false
set_option linter.unusedSimpArgs false
namespace Go.Proofs.YtanlenlmihoiiaaGreatDoor
open Go Go.AL
theorem Oi {L:List Nat}{i:Int}(hL:jy L)(hi:0<=i):ai P F.nX [.d (aI L),.d (dI i)] (.d (dU (L.getD i.toNat 0))):=by
 refine ai.intro fn.nX (by rfl) (by rfl) (au (by rfl)) λE hE=>(AW.sg hE rfl (aG rfl (OL.nil (AW.seq (AW.sg hE rfl (aj rfl (aj rfl ?_)))))))
 refine fO sl.limbs rfl rfl (bD rfl rfl rfl (OL.nil (AW.cond rfl (λh=>?_) (λh=>?_))))
 .have h:=mX h;refine AW.sg hE rfl (aj rfl (aj rfl (ixL sl.limbs 0 rfl rfl (by omega) (by omega) rfl rfl (jb ce.u32 rfl (cv it.u32 it.u64 rfl (wrap_u64 ⟨by omega,by have:=hL.getD i.toNat;omega⟩) (aG rfl (OL.nil ?_)))))))
  exact AW.ret (aT.r ⟨_,.tmp rfl .nil,.le vR⟩)
 .have h:=oN h;exact AW.skip (AW.sg hE rfl (aG rfl (OL.nil (AW.ret (aT.r ⟨_,.tmp rfl .nil,.le (bV.int (by rw[iO,List.getElem?_eq_none (by omega)];rfl))⟩)))))
theorem pq {L:List Nat}{i:Nat}(hL:jy L):ai P F.nX [.d (aI L),.d (dI i)] (.d (dU (L.getD i 0))):=Oi hL (Int.natCast_nonneg i)
theorem lT {L:List Nat}(hL:jy L)(hn:L.length<=8796093022208):ai P F.nS [.d (aI L)] (.d (aI (lim (val L)))):=by
 refine ai.intro fn.nS (by rfl) (by rfl) (au (by rfl)) λE hE=>(AW.sg hE rfl (nI rfl (OL.nil (AW.seq (AW.block (AW.while (α:=List Nat) (λA=>[(0,.d (aI A))]) (λA=>[]) (λA=>jy A/\val A=val L/\A.length<=L.length) (λA=>A.length) L ⟨⟨hL,rfl,Nat.le_refl _⟩,.dw,.nil⟩ ?_))))))
 rintro A ⟨hA,hv,hl⟩
 refine AW.seq (AW.sg hE rfl (aj rfl (fO sl.limbs rfl rfl (kS rfl rfl rfl (OL.split 5 rfl (λh0=>?_) (λh0=>?_))))))
 .have h0:=mX h0;refine aj rfl (OL.yes rfl (aj rfl (OL.yes rfl (aj rfl (OL.yes rfl (fO sl.limbs rfl rfl (OL.yes rfl ?_)))))));refine iW rfl rfl (by omega) (OL.yes rfl (ixL sl.limbs 0 rfl rfl (by omega) (by omega) rfl rfl (OL.yes rfl (jb ce.u32 rfl (OL.yes rfl (fE rfl rfl rfl (OL.split 13 rfl (λh=>?_) (λh=>?_))))))))
  .have h:=mX h;refine nJ rfl rfl (OL.nil (F6 rfl ?_));refine AW.skip (AW.block (AW.rg hE rfl (aj rfl (aj rfl (fO sl.limbs rfl rfl (iW rfl rfl (by omega) (aL4 sl.limbs rfl rfl (λ_=>rfl) (by omega) (l2:=A.dropLast) (by rw[List.dropLast_eq_take];congr 1;omega) ?_)))))))
   exact aG rfl (OL.nil (AW.again (x:=A) A.dropLast (by rw[List.length_dropLast];omega) ⟨⟨hA.dropLast,by rw[<- hv,I9 (by omega) (by rw[zO] at h;omega)],by rw[List.length_dropLast];omega⟩,.dw,.nil⟩))
  .have h:=oN h;refine nJ rfl rfl (OL.nil (pW rfl ?_));exact AW.exit (AW.sg hE rfl (aj rfl (aG rfl (OL.nil (AW.ret (aT.r ⟨_,.tmp rfl .nil,.le (aC (by rw[<- hv,Tn hA (Zo (by omega) (by rw[zO] at h;omega))];rfl))⟩))))))
 .have h0:=oN h0;refine aj rfl (OL.nd rfl (OL.nd rfl (OL.nd rfl (OL.nd rfl (OL.nd rfl (OL.nd rfl (OL.nd rfl ?_)))))));refine oI rfl rfl (OL.nil (pW rfl ?_));exact AW.exit (AW.sg hE rfl (aj rfl (aG rfl (OL.nil (AW.ret (aT.r ⟨_,.tmp rfl .nil,.le (aC (by rw[<- hv,ar1 (L:=A) (by omega),jB,eX];rfl))⟩))))))
theorem zf {A C:List Nat}(hA:jy A)(hC:jy C)(nA:A.length<=8796093022208)(nC:C.length<=8796093022208):ai P F.qy [.d (aI A),.d (aI C)] (.d (dI (EM (val A) (val C)))):=by
 refine ai.intro fn.qy (by rfl) (by rfl) (au (by rfl)) λE hE=>(AW.sg hE rfl (aG rfl (OL.nil (AW.seq (AW.sg hE rfl (aj rfl (fO sl.limbs rfl rfl ?_)))))))
 refine aj rfl (fO sl.limbs rfl rfl (mx rfl rfl (c:=((max A.length C.length:Nat):Int)) (by omega) (iW rfl rfl (by omega) (aG rfl (OL.nil (AW.block ?_))))))
 refine AW.while (α:=Nat) (λn=>[(0,.d (aI A)),(1,.d (aI C)),(5,.d (dI ((n:Int)-1)))]) (λn=>[]) (λn=>n<=max A.length C.length/\∀ j,n<=j->A.getD j 0=C.getD j 0) (λn=>n) (max A.length C.length) ⟨⟨Nat.le_refl _,λj hj=>by rw[zN (by omega),zN (by omega)]⟩,.yI,.nil⟩ ?_
 rintro n ⟨hn,hh⟩
 refine AW.seq (AW.sg hE rfl (aj rfl (tH rfl rfl rfl (OL.nil (AW.cond rfl (λh=>?_) (λh=>?_))))))
 .have h:=mX h;refine AW.skip (AW.seq (AW.block (AW.seq ?_)));have e1:((n:Int)-1).toNat=n-1:=by omega
  have hx:=hA.getD (n-1);have hy:=hC.getD (n-1);refine AW.rg hE rfl (aj rfl (aj rfl (cl (Oi hA (by omega)) rfl vL ?_)))
  rw[e1];refine aj rfl (aj rfl (cl (Oi hC (by omega)) rfl vL ?_))
  rw[e1];refine aG rfl (aG rfl (OL.nil (AW.sg hE rfl (aj rfl (aj rfl (fJ rfl rfl rfl (OL.nil ?_)))))));refine AW.cond rfl (λhne=>?_) (λhne=>?_)
  .have hne:=zH hne;refine AW.sg hE rfl (aj rfl (aj rfl (NU rfl rfl rfl (aY1 rfl rfl rfl (cv it.u64 it.int rfl (wrap_i64 (by omega)) (Tf rfl rfl (by omega) (iW rfl rfl (by omega) ?_)))))))
   exact aG rfl (OL.nil (AW.ret (aT.r ⟨_,.tmp rfl .nil,.le (bV.int (by rw[ar2 hA hC (i:=n-1) (λj hj=>hh j (by omega)) (by omega)];split <;> omega))⟩)))
  .have hne:A.getD (n-1) 0=C.getD (n-1) 0:=by have:=yc hne;omega
   exact AW.skip (AW.rg hE rfl (aj rfl (iW rfl rfl (by omega) (aG rfl (OL.nil (AW.again (x:=n) (n-1) (by omega) ⟨⟨by omega,λj hj=>by rcases Nat.lt_or_ge j n with hj2|hj2;(have:j=n-1:=by omega);rw[this];exact hne;exact hh j hj2⟩,.cons vR (.cons vR (.cons (bV.int (by omega)) .nil)),.nil⟩))))))
 .have h:=oN h;exact AW.exit (AW.sg hE rfl (aG rfl (OL.nil (AW.ret (aT.r ⟨_,.tmp rfl .nil,.le (bV.int (by rw[Qz hA hC λj=>hh j (by omega)];simp[EM]))⟩)))))
theorem X6 {A C:List Nat}(hA:jy A)(hC:jy C)(nA:A.length<=4398046511104)(nC:C.length<=4398046511104):ai P F.oV [.d (aI A),.d (aI C)] (.d (aI (lim (val A+val C)))):=by
 refine ai.intro fn.oV (by rfl) (by rfl) (au (by rfl)) λE hE=>(AW.sg hE rfl (nI rfl (OL.nil (AW.sg hE rfl (nI rfl (OL.nil (AW.sg hE rfl ?_)))))))
 refine aG rfl (OL.nil (AW.seq (AW.sg hE rfl (aG rfl (OL.nil (AW.own 5 34 T.u32 1 rfl rfl (AW.block ?_)))))));refine AW.while (α:=Nat × List Nat × Nat × Nat × Nat) (λ(i,out,sum,b,c)=>[(0,.d (aI A)),(1,.d (aI C)),(5,.bK 34 b out.length c),(6,.d (dU sum)),(7,.d (dI i))]) (λ(i,out,sum,b,c)=>[(34,.row b c T.u32 1 (out.map Ak))]) (λ(i,out,sum,b,c)=>out.length=i/\jy out/\val out+Bp i*sum=val (A.take i)+val (C.take i)/\sum<=1/\i<=max A.length C.length+1/\(i=max A.length C.length+1->sum=0)) (λ(i,out,sum,b,c)=>max A.length C.length+1-i) (0,[],0,0,0) ⟨⟨rfl,jy.nil,rfl,by omega,by omega,by omega⟩,.I7,.cons rfl .nil⟩ ?_
 rintro⟨i,out,sum,b,c⟩ ⟨h1,hO,h2,h3,h4,h5⟩
 refine AW.seq ?_;refine AW.mid (α:=Unit) (λ_u=>[(0,.d (aI A)),(1,.d (aI C)),(5,.bK 34 b out.length c),(6,.d (dU sum)),(7,.d (dI i)),(18,.d (dB (decide (i<max A.length C.length \/ 0<sum))))]) (λ_u=>[(34,.row b c T.u32 1 (out.map Ak))]) (λ_u=>True) ?_ ?_
 .refine AW.rg hE rfl (aj rfl (aj rfl (fO sl.limbs rfl rfl (aj rfl (fO sl.limbs rfl rfl (mx rfl rfl (c:=((max A.length C.length:Nat):Int)) (by omega) (bD rfl rfl rfl ?_)))))))
  refine OL.split 14 rfl (λhi=>?_) (λhi=>?_)
  .have hi:=mX hi;exact aj rfl (OL.nd rfl (OL.nd rfl (nJ rfl rfl (OL.nil (AW.reach () ⟨trivial,.cons vR (.cons vR (.cons vR (.cons vR (.cons vR (.cons (bV.bool (by simp;omega)) .nil))))),.cons rfl .nil⟩)))))
  .have hi:=oN hi;exact aj rfl (OL.yes rfl (aj rfl (OL.yes rfl (kS rfl rfl rfl (oI rfl rfl (OL.nil (AW.reach () ⟨trivial,.cons vR (.cons vR (.cons vR (.cons vR (.cons vR (.cons (bV.bool (by simp;omega)) .nil))))),.cons rfl .nil⟩)))))))
 rintro⟨⟩ -
 refine AW.cond rfl (λh=>?_) (λh=>?_)
 .have h:=mX h;refine AW.skip (AW.seq (AW.block (AW.seq ?_)));have hx:=hA.getD i;have hy:=hC.getD i;refine AW.rg hE rfl (aj rfl (aj rfl (aj rfl (cl (pq hA) rfl vL (aj rfl (aj rfl (cl (pq hC) rfl vL ?_)))))));refine xF rfl rfl (by omega) (xF rfl rfl (by omega) (aG rfl (OL.nil (AW.sg hE rfl (jl rfl (aj rfl (cv it.u64 it.u32 rfl (c:=(((sum+(A.getD i 0+C.getD i 0)) % 4294967296:Nat):Int)) (by rw[iC];omega) ?_)))))))
  refine xG sl.limbs (VC.d _).vd rfl (by decide) ?_
  refine Am sl.limbs rfl rfl rfl (by simp) (VC.d _) (by simp[D.cells]) (by simp;omega) (by simp;omega) (.inr rfl) (ys:=(out++[(sum+(A.getD i 0+C.getD i 0)) % 4294967296]).map Ak) (by simp) (n2:=(out++[(sum+(A.getD i 0+C.getD i 0)) % 4294967296]).length) (by simp) λb2 c2=>?_
  refine uf rfl (OL.nil (AW.rg hE rfl (aj rfl (Lr rfl rfl rfl (aG rfl (OL.nil (AW.rg hE rfl ?_)))))));refine aj rfl (aJ rfl rfl (by omega) (aG rfl (OL.nil ?_)))
  exact AW.again (x:=(i,out,sum,b,c)) (i+1,out++[(sum+(A.getD i 0+C.getD i 0)) % 4294967296],(sum+(A.getD i 0+C.getD i 0)) / 4294967296,b2,c2) (by (simp only[];omega)) ⟨⟨by simp[h1],hO.append (.cons (Nat.mod_lt _ (by decide)) .nil),by rw[zJ,h1,fU hA,fU hC];exact QA h2,by omega,by omega,λe=>by rw[zN (A:=A) (by omega),zN (A:=C) (by omega)];omega⟩,.I7,.cons rfl .nil⟩
 .have h:=oN h;refine AW.exit (AW.seq ?_);have hv:val out=val A+val C:=by
   have:=h2;rw[um (A:=A) (by omega),um (A:=C) (by omega),show sum=0 by omega] at this
   simpa using this
  refine AW.freeze 34 rfl (AW.to [(5,.d (aI out))] [] (.cons (dM (by simp) rfl) .nil) .nil ?_)
  exact AW.rg hE rfl (aj rfl (cl (lT hO (by omega)) rfl vL (aG rfl (OL.nil (AW.ret (aT.r ⟨_,.tmp rfl .nil,.le (aC (by rw[<- hv];rfl))⟩))))))
theorem Bl {A C:List Nat}(hA:jy A)(hC:jy C)(nA:A.length<=8796093022208)(hle:val C<=val A):ai P F.nT [.d (aI A),.d (aI C)] (.d (aI (lim (val A-val C)))):=by
 refine ai.intro fn.nT (by rfl) (by rfl) (au (by rfl)) λE hE=>(AW.sg hE rfl (nI rfl (OL.nil (AW.sg hE rfl (aj rfl (fO sl.limbs rfl rfl (U4 Ak 0 sl.limbs z.u32 (.cons (VC.d _) .nil) rfl rfl (Nat.le_refl _) (by omega) (by omega) rfl λb11=>?_)))))))
 refine uf rfl (OL.nil (AW.sg hE rfl (aG rfl (OL.nil (AW.seq (AW.sg hE rfl (aj rfl ?_)))))));refine fO sl.limbs rfl rfl (aj rfl (OL.nil (AW.block ?_)));refine AW.while (α:=Nat × List Nat × Nat) (λ(i,out,less)=>[(0,.d (aI A)),(1,.d (aI C)),(5,.bK 11 b11 A.length A.length),(6,.d (dU less)),(13,.d (dI A.length)),(14,.d (dI i))]) (λ(i,out,less)=>[(11,.row b11 A.length T.u32 1 (out.map Ak))]) (λ(i,out,less)=>out.length=A.length/\jy out/\val (A.take i)+less*Bp i=val (out.take i)+val (C.take i)/\less<=1/\i<=A.length) (λ(i,out,less)=>A.length-i) (0,List.replicate A.length 0,0) ⟨⟨by simp,jy.zeros _,by simp[jB],by omega,by omega⟩,.Zn,.cons rfl .nil⟩ ?_
 rintro⟨i,out,less⟩ ⟨h1,hO,h2,h3,h4⟩
 refine AW.sg hE rfl (bD rfl rfl rfl (OL.nil (AW.seq (AW.cond rfl (λh=>?_) (λh=>?_)))))
 .have h:=mX h;refine AW.skip (AW.seq (AW.block (AW.sg hE rfl (aj rfl (aG rfl (OL.nil (AW.seq ?_)))))));have hx:=hA.getD i;have hy:=hC.getD i;refine AW.rg hE rfl (aj rfl (aj rfl (cl (pq hA) rfl vL (aj rfl (aj rfl (cl (pq hC) rfl vL (NU rfl rfl rfl ?_)))))));refine aj rfl (NU rfl rfl rfl (aG rfl (OL.nil (AW.rg hE rfl (jl rfl (aj rfl (aj rfl ?_)))))));refine cv it.u64 it.u32 rfl (c:=(((A.getD i 0+4294967296-C.getD i 0-less) % 4294967296:Nat):Int)) (by rw[iC];omega) (aj rfl (aY1 rfl rfl rfl (je sl.limbs rfl rfl (by omega) (J4 sz.u32 rfl (VC.d _).vd rfl rfl (by simp;omega) (es2:=(out.set i ((A.getD i 0+4294967296-C.getD i 0-less) % 4294967296)).map Ak) (by rw[List.map_set]) (aG rfl (OL.nil (AW.rg hE rfl ?_)))))))
  refine aJ rfl rfl (by omega) (aj rfl (OL.nil ?_))
  exact AW.again (x:=(i,out,less)) (i+1,out.set i ((A.getD i 0+4294967296-C.getD i 0-less) % 4294967296),if A.getD i 0<C.getD i 0+less then 1 else 0) (by (simp only[];omega)) ⟨⟨by simp[h1],hO.set _ (Nat.mod_lt _ (by decide)),by rw[fU hA,fU hC,fU (hO.set _ (Nat.mod_lt _ (by decide))),List.take_set_of_le (Nat.le_refl _),P8 (by omega)];exact NV h2 hx hy h3,by split <;> omega,by omega⟩,.cons vR (.cons vR (.cons vR (.cons (bV.int (by split <;> omega)) .jm))),.cons rfl .nil⟩
 .have h:=oN h;refine AW.exit (AW.seq ?_);have hv:val out=val A-val C:=QB hA hO h1 hle (by rw[show i=A.length by omega] at h2;exact h2) h3 hC
  refine AW.freeze 11 rfl (AW.to [(5,.d (aI out))] [] (.cons (dM (by simp[h1]) rfl) .nil) .nil ?_)
  exact AW.rg hE rfl (aj rfl (cl (lT hO (by omega)) rfl vL (aG rfl (OL.nil (AW.ret (aT.r ⟨_,.tmp rfl .nil,.le (aC (by rw[<- hv];rfl))⟩))))))
theorem pX {A C:List Nat}(hA:jy A)(hC:jy C)(nA:A.length<=4398046511104)(nC:C.length<=4398046511104):ai P F.nR [.d (aI A),.d (aI C)] (.d (aI (lim (val A*val C)))):=by
 refine ai.intro fn.nR (by rfl) (by rfl) (au (by rfl)) λE hE=>(AW.sg hE rfl (nI rfl (OL.nil (AW.sg hE rfl (aj rfl (fO sl.limbs rfl rfl (aj rfl ?_)))))))
 refine fO sl.limbs rfl rfl (bo rfl rfl (lG (c:=((A.length+C.length:Nat):Int)) (by omega) (wrap_i64 (by omega))) (U4 Ak 0 sl.limbs z.u32 (.cons (VC.d _) .nil) rfl rfl (Nat.le_refl _) (by omega) (by omega) rfl λb=>(uf rfl (OL.nil (AW.seq (AW.sg hE rfl (aj rfl ?_)))))))
 refine fO sl.limbs rfl rfl (aj rfl (OL.nil (AW.block ?_)));refine AW.while (α:=Nat × List Nat) (λ(i,out)=>[(0,.d (aI A)),(1,.d (aI C)),(5,.bK 14 b (A.length+C.length) (A.length+C.length)),(16,.d (dI A.length)),(17,.d (dI i))]) (λ(i,out)=>[(14,.row b (A.length+C.length) T.u32 1 (out.map Ak))]) (λ(i,out)=>out.length=A.length+C.length/\jy out/\val out=val (A.take i)*val C/\i<=A.length) (λ(i,out)=>A.length-i) (0,List.replicate (A.length+C.length) 0) ⟨⟨by simp,jy.zeros _,by simp[jB,F7],by omega⟩,.I7,.cons rfl .nil⟩ ?_
 rintro⟨i,TG⟩ ⟨h1,hO0,h2,h3⟩
 refine AW.sg hE rfl (bD rfl rfl rfl (OL.nil (AW.seq (AW.cond rfl (λh=>?_) (λh=>?_)))))
 .have h:=mX h;refine AW.skip (AW.seq (AW.block (AW.sg hE rfl (aj rfl (aG rfl (OL.nil (AW.sg hE rfl ?_)))))));refine aG rfl (OL.nil (AW.sg hE rfl (aG rfl (OL.nil (AW.block ?_)))));refine AW.while (α:=Nat × List Nat × Nat) (λ(j,out,sum)=>[(0,.d (aI A)),(1,.d (aI C)),(5,.bK 14 b (A.length+C.length) (A.length+C.length)),(6,.d (dI i)),(7,.d (dU sum)),(8,.d (dI j)),(16,.d (dI A.length)),(17,.d (dI i))]) (λ(j,out,sum)=>[(14,.row b (A.length+C.length) T.u32 1 (out.map Ak))]) (λ(j,out,sum)=>out.length=A.length+C.length/\jy out/\val out+sum*Bp (i+j)=val (A.take i)*val C+A.getD i 0*Bp i*val (C.take j)/\sum<=4294967295/\j<=C.length+1/\(j=C.length+1->sum=0)) (λ(j,out,sum)=>C.length+1-j) (0,TG,0) ⟨⟨h1,hO0,by simp[jB,h2],by omega,by omega,by omega⟩,.rq8,.cons rfl .nil⟩ ?_
  rintro⟨j,out,sum⟩ ⟨g1,hO,g2,g3,g4,g5⟩
  refine AW.seq ?_;refine AW.mid (α:=Unit) (λ_u=>[(0,.d (aI A)),(1,.d (aI C)),(5,.bK 14 b (A.length+C.length) (A.length+C.length)),(6,.d (dI i)),(7,.d (dU sum)),(8,.d (dI j)),(16,.d (dI A.length)),(17,.d (dI i)),(27,.d (dB (decide (j<C.length \/ 0<sum))))]) (λ_u=>[(14,.row b (A.length+C.length) T.u32 1 (out.map Ak))]) (λ_u=>True) ?_ ?_
  .refine AW.rg hE rfl (aj rfl (aj rfl (fO sl.limbs rfl rfl (bD rfl rfl rfl (OL.split 23 rfl (λhj=>?_) (λhj=>?_))))))
   .have hj:=mX hj;exact aj rfl (OL.nd rfl (OL.nd rfl (nJ rfl rfl (OL.nil (AW.reach () ⟨trivial,.cons vR (.cons vR (.cons vR (.cons vR (.cons vR (.cons vR (.cons vR (.cons vR (.cons (bV.bool (by simp;omega)) .nil)))))))),.cons rfl .nil⟩)))))
   .have hj:=oN hj;exact aj rfl (OL.yes rfl (aj rfl (OL.yes rfl (kS rfl rfl rfl (oI rfl rfl (OL.nil (AW.reach () ⟨trivial,.cons vR (.cons vR (.cons vR (.cons vR (.cons vR (.cons vR (.cons vR (.cons vR (.cons (bV.bool (by simp;omega)) .nil)))))))),.cons rfl .nil⟩)))))))
  rintro⟨⟩ -
  refine AW.cond rfl (λhc=>?_) (λhc=>?_)
  .have hc:=mX hc;refine AW.skip (AW.seq (AW.block (AW.seq ?_)));have ha:=hA.getD i;have hc2:=hC.getD j;have ho:=hO.getD (i+j);have hp:A.getD i 0*C.getD j 0<=4294967295*4294967295:=Nat.mul_le_mul (by omega) (by omega)
   have st1:val (out.set (i+j) ((sum+(out.getD (i+j) 0+A.getD i 0*C.getD j 0)) % 4294967296))+(sum+(out.getD (i+j) 0+A.getD i 0*C.getD j 0)) / 4294967296*Bp (i+(j+1))=val (A.take i)*val C+A.getD i 0*Bp i*val (C.take (j+1)):=by
    rw[fU hC];exact NW (by omega) g2 rfl
   refine AW.dg 1 [0,1,2,3,4,5,6,7,8,9,10,11,12,13,14,15,16,17] ak hE rfl (by kernel_rfl) (OI.aP (os:=[_,_,_,_,_,_,_,_,_,_,_,_,_,_,_,_,_,_]) rfl ?_)
   refine aj rfl (jl rfl (aj rfl (aj rfl (aJ rfl rfl (by omega) (Qr sl.limbs rfl rfl (by omega) (by omega) (i:=i+j) (by omega) (Tj ce.u32 0 (by decide) rfl rfl (by omega) rfl (cv it.u32 it.u64 rfl (wrap_u64 (by omega)) ?_)))))))
   refine aj rfl (aj rfl (cl (pq hA) rfl vL (aj rfl (aj rfl (cl (pq hC) rfl vL (aL2 rfl rfl (by omega) (xF rfl rfl (by omega) ?_)))))))
   refine xF rfl rfl (by omega) (aG rfl (OL.nil (AW.sg hE rfl (jl rfl (aj rfl (aj rfl (aJ rfl rfl (by omega) ?_)))))))
   refine aj rfl (cv it.u64 it.u32 rfl (c:=(((sum+(out.getD (i+j) 0+A.getD i 0*C.getD j 0)) % 4294967296:Nat):Int)) (by rw[iC];omega) (Qr sl.limbs rfl rfl (by omega) (by omega) (i:=i+j) (by omega) (J4 sz.u32 rfl (VC.d _).vd rfl rfl (by simp;omega) (es2:=(out.set (i+j) ((sum+(out.getD (i+j) 0+A.getD i 0*C.getD j 0)) % 4294967296)).map Ak) (by rw[List.map_set]) (OL.nil (AW.rg hE rfl (aj rfl (Lr rfl rfl rfl ?_)))))))
   refine aG rfl (OL.nil (AW.rg hE rfl (aj rfl (aJ rfl rfl (by omega) (aG rfl (OL.nil ?_))))))
   exact AW.again (x:=(j,out,sum)) (j+1,out.set (i+j) ((sum+(out.getD (i+j) 0+A.getD i 0*C.getD j 0)) % 4294967296),(sum+(out.getD (i+j) 0+A.getD i 0*C.getD j 0)) / 4294967296) (by (simp only[];omega)) ⟨⟨by simp[g1],hO.set _ (Nat.mod_lt _ (by decide)),st1,by omega,by omega,λe=>ae7 hA hC (j:=j+1) (by omega) st1 e.symm⟩,.rq8,.cons rfl .nil⟩
  .have hc:=oN hc;refine AW.exit (AW.rg hE rfl (aJ rfl rfl (by omega) (aj rfl (OL.nil ?_))))
   exact AW.again (x:=(i,TG)) (i+1,out) (by (simp only[];omega)) ⟨⟨g1,hO,XH hA (j:=j) (by omega) (by rw[show sum=0 by omega] at g2;exact g2),by omega⟩,.I7,.cons rfl .nil⟩
 .have h:=oN h;refine AW.exit (AW.seq ?_);have hv:val TG=val A*val C:=by rw[h2,um (by omega)]
  refine AW.freeze 14 rfl (AW.to [(5,.d (aI TG))] [] (.cons (dM (by simp[h1]) rfl) .nil) .nil ?_)
  exact AW.rg hE rfl (aj rfl (cl (lT hO0 (by omega)) rfl vL (aG rfl (OL.nil (AW.ret (aT.r ⟨_,.tmp rfl .nil,.le (aC (by rw[<- hv];rfl))⟩))))))
theorem Vl {A:List Nat}{d:Nat}(hA:jy A)(nA:A.length<=8796093022208)(h0:0<d)(hd:d<4294967296):ai P F.nY [.d (aI A),.d (Ak d)] (.oM [.d (aI (lim (val A / d))),.d (Ak (val A % d))]):=by
 refine ai.intro fn.nY (by rfl) (by rfl) (au (by rfl)) λE hE=>(AW.sg hE rfl (nI rfl (aG rfl (OL.nil (AW.sg hE rfl (aj rfl (fO sl.limbs rfl rfl ?_)))))))
 refine U4 Ak 0 sl.limbs z.u32 (.cons (VC.d _) .nil) rfl rfl (Nat.le_refl _) (by omega) (by omega) rfl λb=>(uf rfl (aG rfl (OL.nil (AW.seq (AW.sg hE rfl (aj rfl (fO sl.limbs rfl rfl ?_)))))))
 refine iW rfl rfl (by omega) (aG rfl (OL.nil (AW.block ?_)))
 refine AW.while (α:=Nat × List Nat × Nat) (λ(n,out,r)=>[(0,.d (aI A)),(1,.d (Ak d)),(6,.bK 11 b A.length A.length),(7,.d (dU r)),(8,.d (dI ((n:Int)-1)))]) (λ(n,out,r)=>[(11,.row b A.length T.u32 1 (out.map Ak))]) (λ(n,out,r)=>out.length=A.length/\jy out/\val A / Bp n=val (out.drop n)*d+r/\r<d/\n<=A.length) (λ(n,out,r)=>n) (A.length,List.replicate A.length 0,0) ⟨⟨by simp,jy.zeros _,by rw[Nat.div_eq_of_lt (zK hA),List.drop_eq_nil_of_le (by simp),jB];omega,h0,Nat.le_refl _⟩,.I7,.cons rfl .nil⟩ ?_
 rintro⟨n,out,r⟩ ⟨h1,hO,h2,h3,h4⟩
 refine AW.seq (AW.sg hE rfl (aj rfl (tH rfl rfl rfl (OL.nil (AW.cond rfl (λh=>?_) (λh=>?_))))))
 .have h:=mX h;refine AW.skip (AW.seq (AW.block (AW.seq ?_)));have ha:=hA.getD (n-1);have e1:((n:Int)-1).toNat=n-1:=by omega
  have hq:(r*4294967296+A.getD (n-1) 0) / d<4294967296:=Nat.div_lt_of_lt_mul (by have:=Nat.mul_le_mul_right 4294967296 (show r+1<=d from h3);omega)
  refine AW.rg hE rfl (aj rfl (aq7 rfl rfl rfl (by omega) (aj rfl (aj rfl (ixL sl.limbs 0 rfl rfl (by omega) (by omega) rfl rfl ?_)))))
  rw[e1];refine jb ce.u32 rfl (cv it.u32 it.u64 rfl (wrap_u64 (by omega)) (orA (a:=r*4294967296) (b:=A.getD (n-1) 0) 32 r rfl rfl rfl (by omega) (by omega) (aG rfl (OL.nil (AW.sg hE rfl (jl rfl (aj rfl ?_)))))))
  refine aj rfl (aj rfl (cv it.u32 it.u64 rfl (wrap_u64 (by omega)) (bo rfl rfl (c:=.int .u64 (((r*4294967296+A.getD (n-1) 0) / d:Nat):Int)) (Zm (by omega) (by omega)) (cv it.u64 it.u32 rfl (c:=(((r*4294967296+A.getD (n-1) 0) / d:Nat):Int)) (wrap_u32 ⟨Int.natCast_nonneg _,by generalize (r*4294967296+A.getD (n-1) 0) / d=q at hq ⊢;omega⟩) (Qr sl.limbs rfl rfl (by omega) (by omega) (i:=n-1) (by omega) (J4 sz.u32 rfl (VC.d _).vd rfl rfl (by simp;omega) (es2:=(out.set (n-1) ((r*4294967296+A.getD (n-1) 0) / d)).map Ak) (by rw[List.map_set]) (OL.nil ?_)))))))
  refine AW.rg hE rfl (aj rfl (aj rfl (cv it.u32 it.u64 rfl (wrap_u64 (by omega)) (bo rfl rfl (c:=.int .u64 (((r*4294967296+A.getD (n-1) 0) % d:Nat):Int)) (aL5 (by omega)) (aG rfl (OL.nil (AW.rg hE rfl ?_)))))))
  refine aj rfl (iW rfl rfl (by omega) (aG rfl (OL.nil ?_)))
  exact AW.again (x:=(n,out,r)) (n-1,out.set (n-1) ((r*4294967296+A.getD (n-1) 0) / d),(r*4294967296+A.getD (n-1) 0) % d) (by (simp only[];omega)) ⟨⟨by simp[h1],hO.set _ hq,by rw[Ho (by omega) (by omega)];exact XI h0 hA (by omega) h2,Nat.mod_lt _ h0,by omega⟩,.cons vR (.cons vR (.cons vR (.cons vR (.cons (bV.int (by omega)) .nil)))),.cons rfl .nil⟩
 .have h:=oN h;refine AW.exit (AW.seq ?_);have hv:val A=val out*d+r:=by have:=h2;rw[show n=0 by omega] at this;simpa [su] using this
  have hu:=(Nat.div_mod_unique (a:=val A) (c:=r) (d:=val out) h0).2 ⟨by rw[Nat.mul_comm d];omega,h3⟩
  have hv1:val out=val A / d:=hu.1.symm;have hv2:r=val A % d:=hu.2.symm;refine AW.freeze 11 rfl (AW.to [(6,.d (aI out)),(7,.d (dU r))] [] (.cons (dM (by simp[h1]) rfl) .dw) .nil ?_)
  refine AW.rg hE rfl (aj rfl (cl (lT hO (by omega)) rfl vL (aj rfl (cv it.u64 it.u32 rfl (c:=((r:Nat):Int)) (by rw[iC];omega) (aG rfl (aG rfl (OL.nil ?_)))))))
  exact AW.ret (aT.r ⟨_,.tmp rfl (.tmp rfl .nil),_,.cons (.le vR) (.cons (.le vR) .nil),by rw[<- hv1,<- hv2];rfl⟩)
theorem av5 {x:Nat}(hx:x<4294967296):ai P F.uM [.d (Ak x)] (.d (dI (rF x))):=by
 refine ai.intro fn.uM (by rfl) (by rfl) (au (by rfl)) λE hE=>(AW.sg hE rfl (aG rfl (OL.nil (AW.mid (α:=Nat × Nat) (λ(y,s)=>[(0,.d (Ak y)),(2,.d (dI s))]) (λ(y,s)=>[]) (λ(y,s)=>y<65536/\rF y+s=rF x/\s<=16) ?_ ?_))))
 .refine AW.sg hE rfl (aj rfl (tH rfl rfl rfl (OL.nil (AW.cond rfl (λh=>?_) (λh=>?_)))))
  .have h:=mX h;refine AW.sg hE rfl (aj rfl (aL3 rfl rfl ⟨by decide,by decide⟩ (c:=((x / 65536:Nat):Int)) (by show (x:Int) / 65536=_;omega) (aG rfl (OL.nil (AW.rg hE rfl (aG rfl (OL.nil ?_)))))))
   exact AW.reach (x / 65536,16) ⟨⟨by omega,H7 (k:=16) (by omega),by omega⟩,.jm,.nil⟩
  .have h:=oN h;exact AW.skip (AW.reach (x,0) ⟨⟨by omega,rfl,by omega⟩,.jm,.nil⟩)
 rintro⟨y,s⟩ ⟨h1,h2,h2s⟩
 refine AW.mid (α:=Nat × Nat) (λ(z,t)=>[(0,.d (Ak z)),(2,.d (dI t))]) (λ(z,t)=>[]) (λ(z,t)=>z<256/\rF z+t=rF x/\t<=24) ?_ ?_
 .refine AW.sg hE rfl (aj rfl (tH rfl rfl rfl (OL.nil (AW.cond rfl (λh8=>?_) (λh8=>?_)))))
  .have h8:=mX h8;refine AW.sg hE rfl (aj rfl (aL3 rfl rfl ⟨by decide,by decide⟩ (c:=((y / 256:Nat):Int)) (by show (y:Int) / 256=_;omega) (aG rfl (OL.nil (AW.rg hE rfl (aj rfl (aJ rfl rfl (by omega) ?_)))))))
   exact aG rfl (OL.nil (AW.reach (y / 256,s+8) ⟨⟨by omega,by have:=H7 (x:=y) (k:=8) (by omega);rw[show y / 256=y / 2 ^ 8 from rfl];omega,by omega⟩,.jm,.nil⟩))
  .have h8:=oN h8;exact AW.skip (AW.reach (y,s) ⟨⟨by omega,h2,by omega⟩,.jm,.nil⟩)
 rintro⟨z,t⟩ ⟨h3,h4,h4t⟩
 refine AW.seq ?_;have hz:=F8 (x:=z) (k:=8) (by omega)
 refine AW.rg hE rfl (aj rfl (aj rfl (cv it.u32 it.u8 rfl (c:=(z:Int)) (wrap_u8 (by omega)) (sAt st.str rfl rfl (q:=rF z) (tbl (by kernel_rfl) h3) (cv it.u8 it.int rfl (wrap_i64 (by omega)) (aJ rfl rfl (by omega) (aG rfl ?_)))))))
 exact OL.nil (AW.ret (aT.r ⟨_,.tmp rfl .nil,.le (bV.int (by omega))⟩))
theorem ag6 {x:Nat}(hx:x<4294967296):ai P F.jZ [.d (Ak x)] (.d (dI (32-(rF x:Int)))):=by
 refine ai.intro fn.jZ (by rfl) (by rfl) (au (by rfl)) λE hE=>(AW.sg hE rfl (aG rfl (OL.nil (AW.seq ?_))))
 have h0:=F8 (x:=x) (k:=32) (by omega)
 exact AW.rg hE rfl (aj rfl (cl (av5 hx) rfl vL (iW rfl rfl (by omega) (aG rfl (OL.nil (AW.ret (aT.r ⟨_,.tmp rfl .nil,.le vR⟩)))))))

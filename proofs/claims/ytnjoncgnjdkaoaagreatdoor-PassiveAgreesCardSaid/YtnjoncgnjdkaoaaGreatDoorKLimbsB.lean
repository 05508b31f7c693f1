/-
  Walks of package rational, part 2: products, single limbs, shifts, the number of bits (printed by mk.py).
-/
import Derived.Test.YtnjoncgnjdkaoaaGreatDoorKHdr
set_option linter.unusedVariables false
set_option linter.unusedSimpArgs false
namespace Go.Proofs.YtnjoncgnjdkaoaaGreatDoor
open Go Go.AL
theorem Me {L:List Nat}{i:Int}(hL:jb L)(hi:0<=i):aj P F.nH [.d (aH L),.d (dI i)] (.d (dU (L.getD i.toNat 0))):=by
 refine aj.intro fn.nH (by rfl) (by rfl) (aB (by rfl)) λE hE=>(AW.sg hE rfl (aF rfl (OL.nil (AW.seq (AW.sg hE rfl (ai rfl (ai rfl ?_)))))))
 refine fJ sl.limbs rfl rfl (aY rfl rfl rfl (OL.nil (AW.cond rfl (λh=>?_) (λh=>?_))))
 .have h:=lq h;refine AW.sg hE rfl (ai rfl (ai rfl (ixL sl.limbs 0 rfl rfl (by omega) (by omega) rfl rfl (iH ce.u32 rfl (cv it.u32 it.u64 rfl (wrap_u64 ⟨by omega,by have:=hL.getD i.toNat;omega⟩) (aF rfl (OL.nil ?_)))))))
  exact AW.ret (aP.r ⟨_,.tmp rfl .nil,.le vR⟩)
 .have h:=nS h;exact AW.skip (AW.sg hE rfl (aF rfl (OL.nil (AW.ret (aP.r ⟨_,.tmp rfl .nil,.le (bG.int (by rw[ig,List.getElem?_eq_none (by omega)];rfl))⟩)))))
theorem o9 {L:List Nat}{i:Nat}(hL:jb L):aj P F.nH [.d (aH L),.d (dI i)] (.d (dU (L.getD i 0))):=Me hL (Int.natCast_nonneg i)
theorem kX {L:List Nat}(hL:jb L)(hn:L.length<=8796093022208):aj P F.ny [.d (aH L)] (.d (aH (lim (val L)))):=by
 refine aj.intro fn.ny (by rfl) (by rfl) (aB (by rfl)) λE hE=>(AW.sg hE rfl (oK rfl (OL.nil (AW.seq (AW.block (AW.while (α:=List Nat) (λA=>[(0,.d (aH A))]) (λA=>[]) (λA=>jb A/\val A=val L/\A.length<=L.length) (λA=>A.length) L ⟨⟨hL,rfl,Nat.le_refl _⟩,.bZ,.nil⟩ ?_))))))
 rintro A ⟨hA,hv,hl⟩
 refine AW.seq (AW.sg hE rfl (ai rfl (fJ sl.limbs rfl rfl (iO rfl rfl rfl (OL.split 5 rfl (λh0=>?_) (λh0=>?_))))))
 .have h0:=lq h0;refine ai rfl (OL.yes rfl (ai rfl (OL.yes rfl (ai rfl (OL.yes rfl (fJ sl.limbs rfl rfl (OL.yes rfl ?_)))))));refine gI rfl rfl (by omega) (OL.yes rfl (ixL sl.limbs 0 rfl rfl (by omega) (by omega) rfl rfl (OL.yes rfl (iH ce.u32 rfl (OL.yes rfl (dR rfl rfl rfl (OL.split 13 rfl (λh=>?_) (λh=>?_))))))))
  .have h:=lq h;refine oC rfl rfl (OL.nil (Ot rfl ?_));refine AW.skip (AW.block (AW.rg hE rfl (ai rfl (ai rfl (fJ sl.limbs rfl rfl (gI rfl rfl (by omega) (ae0 sl.limbs rfl rfl (λ_=>rfl) (by omega) (l2:=A.dropLast) (by rw[List.dropLast_eq_take];congr 1;omega) ?_)))))))
   exact aF rfl (OL.nil (AW.again (x:=A) A.dropLast (by rw[List.length_dropLast];omega) ⟨⟨hA.dropLast,by rw[<- hv,G8 (by omega) (by rw[y7] at h;omega)],by rw[List.length_dropLast];omega⟩,.bZ,.nil⟩))
  .have h:=nS h;refine oC rfl rfl (OL.nil (qW rfl ?_));exact AW.exit (AW.sg hE rfl (ai rfl (aF rfl (OL.nil (AW.ret (aP.r ⟨_,.tmp rfl .nil,.le (au (by rw[<- hv,QO hA (Xz (by omega) (by rw[y7] at h;omega))];rfl))⟩))))))
 .have h0:=nS h0;refine ai rfl (OL.nd rfl (OL.nd rfl (OL.nd rfl (OL.nd rfl (OL.nd rfl (OL.nd rfl (OL.nd rfl ?_)))))));refine kL rfl rfl (OL.nil (qW rfl ?_));exact AW.exit (AW.sg hE rfl (ai rfl (aF rfl (OL.nil (AW.ret (aP.r ⟨_,.tmp rfl .nil,.le (au (by rw[<- hv,ae4 (L:=A) (by omega),je,dY];rfl))⟩))))))
theorem yN {A C:List Nat}(hA:jb A)(hC:jb C)(nA:A.length<=8796093022208)(nC:C.length<=8796093022208):aj P F.qg [.d (aH A),.d (aH C)] (.d (dI (DU (val A) (val C)))):=by
 refine aj.intro fn.qg (by rfl) (by rfl) (aB (by rfl)) λE hE=>(AW.sg hE rfl (aF rfl (OL.nil (AW.seq (AW.sg hE rfl (ai rfl (fJ sl.limbs rfl rfl ?_)))))))
 refine ai rfl (fJ sl.limbs rfl rfl (mx rfl rfl (c:=((max A.length C.length:Nat):Int)) (by omega) (gI rfl rfl (by omega) (aF rfl (OL.nil (AW.block ?_))))))
 refine AW.while (α:=Nat) (λn=>[(0,.d (aH A)),(1,.d (aH C)),(5,.d (dI ((n:Int)-1)))]) (λn=>[]) (λn=>n<=max A.length C.length/\∀ j,n<=j->A.getD j 0=C.getD j 0) (λn=>n) (max A.length C.length) ⟨⟨Nat.le_refl _,λj hj=>by rw[y5 (by omega),y5 (by omega)]⟩,.Ah,.nil⟩ ?_
 rintro n ⟨hn,hh⟩
 refine AW.seq (AW.sg hE rfl (ai rfl (qY rfl rfl rfl (OL.nil (AW.cond rfl (λh=>?_) (λh=>?_))))))
 .have h:=lq h;refine AW.skip (AW.seq (AW.block (AW.seq ?_)));have e1:((n:Int)-1).toNat=n-1:=by omega
  have hx:=hA.getD (n-1);have hy:=hC.getD (n-1);refine AW.rg hE rfl (ai rfl (ai rfl (cl (Me hA (by omega)) rfl vL ?_)))
  rw[e1];refine ai rfl (ai rfl (cl (Me hC (by omega)) rfl vL ?_))
  rw[e1];refine aF rfl (aF rfl (OL.nil (AW.sg hE rfl (ai rfl (ai rfl (eG rfl rfl rfl (OL.nil ?_)))))));refine AW.cond rfl (λhne=>?_) (λhne=>?_)
  .have hne:=D7 hne;refine AW.sg hE rfl (ai rfl (ai rfl (Ls rfl rfl rfl (aJ4 rfl rfl rfl (cv it.u64 it.int rfl (wrap_i64 (by omega)) (QK rfl rfl (by omega) (gI rfl rfl (by omega) ?_)))))))
   exact aF rfl (OL.nil (AW.ret (aP.r ⟨_,.tmp rfl .nil,.le (bG.int (by rw[ae5 hA hC (i:=n-1) (λj hj=>hh j (by omega)) (by omega)];split <;> omega))⟩)))
  .have hne:A.getD (n-1) 0=C.getD (n-1) 0:=by have:=Bc hne;omega
   exact AW.skip (AW.rg hE rfl (ai rfl (gI rfl rfl (by omega) (aF rfl (OL.nil (AW.again (x:=n) (n-1) (by omega) ⟨⟨by omega,λj hj=>by rcases Nat.lt_or_ge j n with hj2|hj2;(have:j=n-1:=by omega);rw[this];exact hne;exact hh j hj2⟩,.cons vR (.cons vR (.cons (bG.int (by omega)) .nil)),.nil⟩))))))
 .have h:=nS h;exact AW.exit (AW.sg hE rfl (aF rfl (OL.nil (AW.ret (aP.r ⟨_,.tmp rfl .nil,.le (bG.int (by rw[OQ hA hC λj=>hh j (by omega)];simp[DU]))⟩)))))
theorem Wq {A C:List Nat}(hA:jb A)(hC:jb C)(nA:A.length<=4398046511104)(nC:C.length<=4398046511104):aj P F.oP [.d (aH A),.d (aH C)] (.d (aH (lim (val A+val C)))):=by
 refine aj.intro fn.oP (by rfl) (by rfl) (aB (by rfl)) λE hE=>(AW.sg hE rfl (oK rfl (OL.nil (AW.sg hE rfl (oK rfl (OL.nil (AW.sg hE rfl ?_)))))))
 refine aF rfl (OL.nil (AW.seq (AW.sg hE rfl (aF rfl (OL.nil (AW.own 5 34 T.u32 1 rfl rfl (AW.block ?_)))))));refine AW.while (α:=Nat × List Nat × Nat × Nat × Nat) (λ(i,out,sum,b,c)=>[(0,.d (aH A)),(1,.d (aH C)),(5,.bF 34 b out.length c),(6,.d (dU sum)),(7,.d (dI i))]) (λ(i,out,sum,b,c)=>[(34,.row b c T.u32 1 (out.map zY))]) (λ(i,out,sum,b,c)=>out.length=i/\jb out/\val out+Bp i*sum=val (A.take i)+val (C.take i)/\sum<=1/\i<=max A.length C.length+1/\(i=max A.length C.length+1->sum=0)) (λ(i,out,sum,b,c)=>max A.length C.length+1-i) (0,[],0,0,0) ⟨⟨rfl,jb.nil,rfl,by omega,by omega,by omega⟩,.DR,.cons rfl .nil⟩ ?_
 rintro⟨i,out,sum,b,c⟩ ⟨h1,hO,h2,h3,h4,h5⟩
 refine AW.seq ?_;refine AW.mid (α:=Unit) (λ_u=>[(0,.d (aH A)),(1,.d (aH C)),(5,.bF 34 b out.length c),(6,.d (dU sum)),(7,.d (dI i)),(18,.d (dB (decide (i<max A.length C.length \/ 0<sum))))]) (λ_u=>[(34,.row b c T.u32 1 (out.map zY))]) (λ_u=>True) ?_ ?_
 .refine AW.rg hE rfl (ai rfl (ai rfl (fJ sl.limbs rfl rfl (ai rfl (fJ sl.limbs rfl rfl (mx rfl rfl (c:=((max A.length C.length:Nat):Int)) (by omega) (aY rfl rfl rfl ?_)))))))
  refine OL.split 14 rfl (λhi=>?_) (λhi=>?_)
  .have hi:=lq hi;exact ai rfl (OL.nd rfl (OL.nd rfl (oC rfl rfl (OL.nil (AW.reach () ⟨trivial,.cons vR (.cons vR (.cons vR (.cons vR (.cons vR (.cons (bG.bool (by simp;omega)) .nil))))),.cons rfl .nil⟩)))))
  .have hi:=nS hi;exact ai rfl (OL.yes rfl (ai rfl (OL.yes rfl (iO rfl rfl rfl (kL rfl rfl (OL.nil (AW.reach () ⟨trivial,.cons vR (.cons vR (.cons vR (.cons vR (.cons vR (.cons (bG.bool (by simp;omega)) .nil))))),.cons rfl .nil⟩)))))))
 rintro⟨⟩ -
 refine AW.cond rfl (λh=>?_) (λh=>?_)
 .have h:=lq h;refine AW.skip (AW.seq (AW.block (AW.seq ?_)));have hx:=hA.getD i;have hy:=hC.getD i;refine AW.rg hE rfl (ai rfl (ai rfl (ai rfl (cl (o9 hA) rfl vL (ai rfl (ai rfl (cl (o9 hC) rfl vL ?_)))))));refine xg rfl rfl (by omega) (xg rfl rfl (by omega) (aF rfl (OL.nil (AW.sg hE rfl (jq rfl (ai rfl (cv it.u64 it.u32 rfl (c:=(((sum+(A.getD i 0+C.getD i 0)) % 4294967296:Nat):Int)) (by rw[gG];omega) ?_)))))))
  refine zX sl.limbs (VC.d _).vd rfl (by decide) ?_
  refine Ce sl.limbs rfl rfl rfl (by simp) (VC.d _) (by simp[D.cells]) (by simp;omega) (by simp;omega) (.inr rfl) (ys:=(out++[(sum+(A.getD i 0+C.getD i 0)) % 4294967296]).map zY) (by simp) (n2:=(out++[(sum+(A.getD i 0+C.getD i 0)) % 4294967296]).length) (by simp) λb2 c2=>?_
  refine tJ rfl (OL.nil (AW.rg hE rfl (ai rfl (Jy rfl rfl rfl (aF rfl (OL.nil (AW.rg hE rfl ?_)))))));refine ai rfl (aI rfl rfl (by omega) (aF rfl (OL.nil ?_)))
  exact AW.again (x:=(i,out,sum,b,c)) (i+1,out++[(sum+(A.getD i 0+C.getD i 0)) % 4294967296],(sum+(A.getD i 0+C.getD i 0)) / 4294967296,b2,c2) (by (simp only[];omega)) ⟨⟨by simp[h1],hO.append (.cons (Nat.mod_lt _ (by decide)) .nil),by rw[yX,h1,fF hA,fF hC];exact OU h2,by omega,by omega,λe=>by rw[y5 (A:=A) (by omega),y5 (A:=C) (by omega)];omega⟩,.DR,.cons rfl .nil⟩
 .have h:=nS h;refine AW.exit (AW.seq ?_);have hv:val out=val A+val C:=by
   have:=h2;rw[tK (A:=A) (by omega),tK (A:=C) (by omega),show sum=0 by omega] at this
   simpa using this
  refine AW.freeze 34 rfl (AW.to [(5,.d (aH out))] [] (.cons (dL (by simp) rfl) .nil) .nil ?_)
  exact AW.rg hE rfl (ai rfl (cl (kX hO (by omega)) rfl vL (aF rfl (OL.nil (AW.ret (aP.r ⟨_,.tmp rfl .nil,.le (au (by rw[<- hv];rfl))⟩))))))
theorem AZ {A C:List Nat}(hA:jb A)(hC:jb C)(nA:A.length<=8796093022208)(hle:val C<=val A):aj P F.nM [.d (aH A),.d (aH C)] (.d (aH (lim (val A-val C)))):=by
 refine aj.intro fn.nM (by rfl) (by rfl) (aB (by rfl)) λE hE=>(AW.sg hE rfl (oK rfl (OL.nil (AW.sg hE rfl (ai rfl (fJ sl.limbs rfl rfl (QM zY 0 sl.limbs z.u32 (.cons (VC.d _) .nil) rfl rfl (Nat.le_refl _) (by omega) (by omega) rfl λb11=>?_)))))))
 refine tJ rfl (OL.nil (AW.sg hE rfl (aF rfl (OL.nil (AW.seq (AW.sg hE rfl (ai rfl ?_)))))));refine fJ sl.limbs rfl rfl (ai rfl (OL.nil (AW.block ?_)));refine AW.while (α:=Nat × List Nat × Nat) (λ(i,out,less)=>[(0,.d (aH A)),(1,.d (aH C)),(5,.bF 11 b11 A.length A.length),(6,.d (dU less)),(13,.d (dI A.length)),(14,.d (dI i))]) (λ(i,out,less)=>[(11,.row b11 A.length T.u32 1 (out.map zY))]) (λ(i,out,less)=>out.length=A.length/\jb out/\val (A.take i)+less*Bp i=val (out.take i)+val (C.take i)/\less<=1/\i<=A.length) (λ(i,out,less)=>A.length-i) (0,List.replicate A.length 0,0) ⟨⟨by simp,jb.zeros _,by simp[je],by omega,by omega⟩,.RZ,.cons rfl .nil⟩ ?_
 rintro⟨i,out,less⟩ ⟨h1,hO,h2,h3,h4⟩
 refine AW.sg hE rfl (aY rfl rfl rfl (OL.nil (AW.seq (AW.cond rfl (λh=>?_) (λh=>?_)))))
 .have h:=lq h;refine AW.skip (AW.seq (AW.block (AW.sg hE rfl (ai rfl (aF rfl (OL.nil (AW.seq ?_)))))));have hx:=hA.getD i;have hy:=hC.getD i;refine AW.rg hE rfl (ai rfl (ai rfl (cl (o9 hA) rfl vL (ai rfl (ai rfl (cl (o9 hC) rfl vL (Ls rfl rfl rfl ?_)))))));refine ai rfl (Ls rfl rfl rfl (aF rfl (OL.nil (AW.rg hE rfl (jq rfl (ai rfl (ai rfl ?_)))))));refine cv it.u64 it.u32 rfl (c:=(((A.getD i 0+4294967296-C.getD i 0-less) % 4294967296:Nat):Int)) (by rw[gG];omega) (ai rfl (aJ4 rfl rfl rfl (iM sl.limbs rfl rfl (by omega) (GI sz.u32 rfl (VC.d _).vd rfl rfl (by simp;omega) (es2:=(out.set i ((A.getD i 0+4294967296-C.getD i 0-less) % 4294967296)).map zY) (by rw[List.map_set]) (aF rfl (OL.nil (AW.rg hE rfl ?_)))))))
  refine aI rfl rfl (by omega) (ai rfl (OL.nil ?_))
  exact AW.again (x:=(i,out,less)) (i+1,out.set i ((A.getD i 0+4294967296-C.getD i 0-less) % 4294967296),if A.getD i 0<C.getD i 0+less then 1 else 0) (by (simp only[];omega)) ⟨⟨by simp[h1],hO.set _ (Nat.mod_lt _ (by decide)),by rw[fF hA,fF hC,fF (hO.set _ (Nat.mod_lt _ (by decide))),List.take_set_of_le (Nat.le_refl _),Ox (by omega)];exact Lu h2 hx hy h3,by split <;> omega,by omega⟩,.cons vR (.cons vR (.cons vR (.cons (bG.int (by split <;> omega)) .iq))),.cons rfl .nil⟩
 .have h:=nS h;refine AW.exit (AW.seq ?_);have hv:val out=val A-val C:=OV hA hO h1 hle (by rw[show i=A.length by omega] at h2;exact h2) h3 hC
  refine AW.freeze 11 rfl (AW.to [(5,.d (aH out))] [] (.cons (dL (by simp[h1]) rfl) .nil) .nil ?_)
  exact AW.rg hE rfl (ai rfl (cl (kX hO (by omega)) rfl vL (aF rfl (OL.nil (AW.ret (aP.r ⟨_,.tmp rfl .nil,.le (au (by rw[<- hv];rfl))⟩))))))
theorem pU {A C:List Nat}(hA:jb A)(hC:jb C)(nA:A.length<=4398046511104)(nC:C.length<=4398046511104):aj P F.mW [.d (aH A),.d (aH C)] (.d (aH (lim (val A*val C)))):=by
 refine aj.intro fn.mW (by rfl) (by rfl) (aB (by rfl)) λE hE=>(AW.sg hE rfl (oK rfl (OL.nil (AW.sg hE rfl (ai rfl (fJ sl.limbs rfl rfl (ai rfl ?_)))))))
 refine fJ sl.limbs rfl rfl (bo rfl rfl (jB (c:=((A.length+C.length:Nat):Int)) (by omega) (wrap_i64 (by omega))) (QM zY 0 sl.limbs z.u32 (.cons (VC.d _) .nil) rfl rfl (Nat.le_refl _) (by omega) (by omega) rfl λb=>(tJ rfl (OL.nil (AW.seq (AW.sg hE rfl (ai rfl ?_)))))))
 refine fJ sl.limbs rfl rfl (ai rfl (OL.nil (AW.block ?_)));refine AW.while (α:=Nat × List Nat) (λ(i,out)=>[(0,.d (aH A)),(1,.d (aH C)),(5,.bF 14 b (A.length+C.length) (A.length+C.length)),(16,.d (dI A.length)),(17,.d (dI i))]) (λ(i,out)=>[(14,.row b (A.length+C.length) T.u32 1 (out.map zY))]) (λ(i,out)=>out.length=A.length+C.length/\jb out/\val out=val (A.take i)*val C/\i<=A.length) (λ(i,out)=>A.length-i) (0,List.replicate (A.length+C.length) 0) ⟨⟨by simp,jb.zeros _,by simp[je,EP],by omega⟩,.DR,.cons rfl .nil⟩ ?_
 rintro⟨i,Q5⟩ ⟨h1,hO0,h2,h3⟩
 refine AW.sg hE rfl (aY rfl rfl rfl (OL.nil (AW.seq (AW.cond rfl (λh=>?_) (λh=>?_)))))
 .have h:=lq h;refine AW.skip (AW.seq (AW.block (AW.sg hE rfl (ai rfl (aF rfl (OL.nil (AW.sg hE rfl ?_)))))));refine aF rfl (OL.nil (AW.sg hE rfl (aF rfl (OL.nil (AW.block ?_)))));refine AW.while (α:=Nat × List Nat × Nat) (λ(j,out,sum)=>[(0,.d (aH A)),(1,.d (aH C)),(5,.bF 14 b (A.length+C.length) (A.length+C.length)),(6,.d (dI i)),(7,.d (dU sum)),(8,.d (dI j)),(16,.d (dI A.length)),(17,.d (dI i))]) (λ(j,out,sum)=>[(14,.row b (A.length+C.length) T.u32 1 (out.map zY))]) (λ(j,out,sum)=>out.length=A.length+C.length/\jb out/\val out+sum*Bp (i+j)=val (A.take i)*val C+A.getD i 0*Bp i*val (C.take j)/\sum<=4294967295/\j<=C.length+1/\(j=C.length+1->sum=0)) (λ(j,out,sum)=>C.length+1-j) (0,Q5,0) ⟨⟨h1,hO0,by simp[je,h2],by omega,by omega,by omega⟩,.Si,.cons rfl .nil⟩ ?_
  rintro⟨j,out,sum⟩ ⟨g1,hO,g2,g3,g4,g5⟩
  refine AW.seq ?_;refine AW.mid (α:=Unit) (λ_u=>[(0,.d (aH A)),(1,.d (aH C)),(5,.bF 14 b (A.length+C.length) (A.length+C.length)),(6,.d (dI i)),(7,.d (dU sum)),(8,.d (dI j)),(16,.d (dI A.length)),(17,.d (dI i)),(27,.d (dB (decide (j<C.length \/ 0<sum))))]) (λ_u=>[(14,.row b (A.length+C.length) T.u32 1 (out.map zY))]) (λ_u=>True) ?_ ?_
  .refine AW.rg hE rfl (ai rfl (ai rfl (fJ sl.limbs rfl rfl (aY rfl rfl rfl (OL.split 23 rfl (λhj=>?_) (λhj=>?_))))))
   .have hj:=lq hj;exact ai rfl (OL.nd rfl (OL.nd rfl (oC rfl rfl (OL.nil (AW.reach () ⟨trivial,.cons vR (.cons vR (.cons vR (.cons vR (.cons vR (.cons vR (.cons vR (.cons vR (.cons (bG.bool (by simp;omega)) .nil)))))))),.cons rfl .nil⟩)))))
   .have hj:=nS hj;exact ai rfl (OL.yes rfl (ai rfl (OL.yes rfl (iO rfl rfl rfl (kL rfl rfl (OL.nil (AW.reach () ⟨trivial,.cons vR (.cons vR (.cons vR (.cons vR (.cons vR (.cons vR (.cons vR (.cons vR (.cons (bG.bool (by simp;omega)) .nil)))))))),.cons rfl .nil⟩)))))))
  rintro⟨⟩ -
  refine AW.cond rfl (λhc=>?_) (λhc=>?_)
  .have hc:=lq hc;refine AW.skip (AW.seq (AW.block (AW.seq ?_)));have ha:=hA.getD i;have hc2:=hC.getD j;have ho:=hO.getD (i+j);have hp:A.getD i 0*C.getD j 0<=4294967295*4294967295:=Nat.mul_le_mul (by omega) (by omega)
   have st1:val (out.set (i+j) ((sum+(out.getD (i+j) 0+A.getD i 0*C.getD j 0)) % 4294967296))+(sum+(out.getD (i+j) 0+A.getD i 0*C.getD j 0)) / 4294967296*Bp (i+(j+1))=val (A.take i)*val C+A.getD i 0*Bp i*val (C.take (j+1)):=by
    rw[fF hC];exact LC (by omega) g2 rfl
   refine AW.dg 1 [0,1,2,3,4,5,6,7,8,9,10,11,12,13,14,15,16,17] ay hE rfl (by kernel_rfl) (OI.aK (os:=[_,_,_,_,_,_,_,_,_,_,_,_,_,_,_,_,_,_]) rfl ?_)
   refine ai rfl (jq rfl (ai rfl (ai rfl (aI rfl rfl (by omega) (Vu sl.limbs rfl rfl (by omega) (by omega) (i:=i+j) (by omega) (J6 ce.u32 0 (by decide) rfl rfl (by omega) rfl (cv it.u32 it.u64 rfl (wrap_u64 (by omega)) ?_)))))))
   refine ai rfl (ai rfl (cl (o9 hA) rfl vL (ai rfl (ai rfl (cl (o9 hC) rfl vL (ay0 rfl rfl (by omega) (xg rfl rfl (by omega) ?_)))))))
   refine xg rfl rfl (by omega) (aF rfl (OL.nil (AW.sg hE rfl (jq rfl (ai rfl (ai rfl (aI rfl rfl (by omega) ?_)))))))
   refine ai rfl (cv it.u64 it.u32 rfl (c:=(((sum+(out.getD (i+j) 0+A.getD i 0*C.getD j 0)) % 4294967296:Nat):Int)) (by rw[gG];omega) (Vu sl.limbs rfl rfl (by omega) (by omega) (i:=i+j) (by omega) (GI sz.u32 rfl (VC.d _).vd rfl rfl (by simp;omega) (es2:=(out.set (i+j) ((sum+(out.getD (i+j) 0+A.getD i 0*C.getD j 0)) % 4294967296)).map zY) (by rw[List.map_set]) (OL.nil (AW.rg hE rfl (ai rfl (Jy rfl rfl rfl ?_)))))))
   refine aF rfl (OL.nil (AW.rg hE rfl (ai rfl (aI rfl rfl (by omega) (aF rfl (OL.nil ?_))))))
   exact AW.again (x:=(j,out,sum)) (j+1,out.set (i+j) ((sum+(out.getD (i+j) 0+A.getD i 0*C.getD j 0)) % 4294967296),(sum+(out.getD (i+j) 0+A.getD i 0*C.getD j 0)) / 4294967296) (by (simp only[];omega)) ⟨⟨by simp[g1],hO.set _ (Nat.mod_lt _ (by decide)),st1,by omega,by omega,λe=>Y1 hA hC (j:=j+1) (by omega) st1 e.symm⟩,.Si,.cons rfl .nil⟩
  .have hc:=nS hc;refine AW.exit (AW.rg hE rfl (aI rfl rfl (by omega) (ai rfl (OL.nil ?_))))
   exact AW.again (x:=(i,Q5)) (i+1,out) (by (simp only[];omega)) ⟨⟨g1,hO,VN hA (j:=j) (by omega) (by rw[show sum=0 by omega] at g2;exact g2),by omega⟩,.DR,.cons rfl .nil⟩
 .have h:=nS h;refine AW.exit (AW.seq ?_);have hv:val Q5=val A*val C:=by rw[h2,tK (by omega)]
  refine AW.freeze 14 rfl (AW.to [(5,.d (aH Q5))] [] (.cons (dL (by simp[h1]) rfl) .nil) .nil ?_)
  exact AW.rg hE rfl (ai rfl (cl (kX hO0 (by omega)) rfl vL (aF rfl (OL.nil (AW.ret (aP.r ⟨_,.tmp rfl .nil,.le (au (by rw[<- hv];rfl))⟩))))))
theorem TI {A:List Nat}{d:Nat}(hA:jb A)(nA:A.length<=8796093022208)(h0:0<d)(hd:d<4294967296):aj P F.nK [.d (aH A),.d (zY d)] (.jS [.d (aH (lim (val A / d))),.d (zY (val A % d))]):=by
 refine aj.intro fn.nK (by rfl) (by rfl) (aB (by rfl)) λE hE=>(AW.sg hE rfl (oK rfl (aF rfl (OL.nil (AW.sg hE rfl (ai rfl (fJ sl.limbs rfl rfl ?_)))))))
 refine QM zY 0 sl.limbs z.u32 (.cons (VC.d _) .nil) rfl rfl (Nat.le_refl _) (by omega) (by omega) rfl λb=>(tJ rfl (aF rfl (OL.nil (AW.seq (AW.sg hE rfl (ai rfl (fJ sl.limbs rfl rfl ?_)))))))
 refine gI rfl rfl (by omega) (aF rfl (OL.nil (AW.block ?_)))
 refine AW.while (α:=Nat × List Nat × Nat) (λ(n,out,r)=>[(0,.d (aH A)),(1,.d (zY d)),(6,.bF 11 b A.length A.length),(7,.d (dU r)),(8,.d (dI ((n:Int)-1)))]) (λ(n,out,r)=>[(11,.row b A.length T.u32 1 (out.map zY))]) (λ(n,out,r)=>out.length=A.length/\jb out/\val A / Bp n=val (out.drop n)*d+r/\r<d/\n<=A.length) (λ(n,out,r)=>n) (A.length,List.replicate A.length 0,0) ⟨⟨by simp,jb.zeros _,by rw[Nat.div_eq_of_lt (yY hA),List.drop_eq_nil_of_le (by simp),je];omega,h0,Nat.le_refl _⟩,.DR,.cons rfl .nil⟩ ?_
 rintro⟨n,out,r⟩ ⟨h1,hO,h2,h3,h4⟩
 refine AW.seq (AW.sg hE rfl (ai rfl (qY rfl rfl rfl (OL.nil (AW.cond rfl (λh=>?_) (λh=>?_))))))
 .have h:=lq h;refine AW.skip (AW.seq (AW.block (AW.seq ?_)));have ha:=hA.getD (n-1);have e1:((n:Int)-1).toNat=n-1:=by omega
  have hq:(r*4294967296+A.getD (n-1) 0) / d<4294967296:=Nat.div_lt_of_lt_mul (by have:=Nat.mul_le_mul_right 4294967296 (show r+1<=d from h3);omega)
  refine AW.rg hE rfl (ai rfl (ad9 rfl rfl rfl (by omega) (ai rfl (ai rfl (ixL sl.limbs 0 rfl rfl (by omega) (by omega) rfl rfl ?_)))))
  rw[e1];refine iH ce.u32 rfl (cv it.u32 it.u64 rfl (wrap_u64 (by omega)) (orA (a:=r*4294967296) (b:=A.getD (n-1) 0) 32 r rfl rfl rfl (by omega) (by omega) (aF rfl (OL.nil (AW.sg hE rfl (jq rfl (ai rfl ?_)))))))
  refine ai rfl (ai rfl (cv it.u32 it.u64 rfl (wrap_u64 (by omega)) (bo rfl rfl (c:=.int .u64 (((r*4294967296+A.getD (n-1) 0) / d:Nat):Int)) (Xy (by omega) (by omega)) (cv it.u64 it.u32 rfl (c:=(((r*4294967296+A.getD (n-1) 0) / d:Nat):Int)) (wrap_u32 ⟨Int.natCast_nonneg _,by generalize (r*4294967296+A.getD (n-1) 0) / d=q at hq ⊢;omega⟩) (Vu sl.limbs rfl rfl (by omega) (by omega) (i:=n-1) (by omega) (GI sz.u32 rfl (VC.d _).vd rfl rfl (by simp;omega) (es2:=(out.set (n-1) ((r*4294967296+A.getD (n-1) 0) / d)).map zY) (by rw[List.map_set]) (OL.nil ?_)))))))
  refine AW.rg hE rfl (ai rfl (ai rfl (cv it.u32 it.u64 rfl (wrap_u64 (by omega)) (bo rfl rfl (c:=.int .u64 (((r*4294967296+A.getD (n-1) 0) % d:Nat):Int)) (ay1 (by omega)) (aF rfl (OL.nil (AW.rg hE rfl ?_)))))))
  refine ai rfl (gI rfl rfl (by omega) (aF rfl (OL.nil ?_)))
  exact AW.again (x:=(n,out,r)) (n-1,out.set (n-1) ((r*4294967296+A.getD (n-1) 0) / d),(r*4294967296+A.getD (n-1) 0) % d) (by (simp only[];omega)) ⟨⟨by simp[h1],hO.set _ hq,by rw[FU (by omega) (by omega)];exact VO h0 hA (by omega) h2,Nat.mod_lt _ h0,by omega⟩,.cons vR (.cons vR (.cons vR (.cons vR (.cons (bG.int (by omega)) .nil)))),.cons rfl .nil⟩
 .have h:=nS h;refine AW.exit (AW.seq ?_);have hv:val A=val out*d+r:=by have:=h2;rw[show n=0 by omega] at this;simpa [rP] using this
  have hu:=(Nat.div_mod_unique (a:=val A) (c:=r) (d:=val out) h0).2 ⟨by rw[Nat.mul_comm d];omega,h3⟩
  have hv1:val out=val A / d:=hu.1.symm;have hv2:r=val A % d:=hu.2.symm;refine AW.freeze 11 rfl (AW.to [(6,.d (aH out)),(7,.d (dU r))] [] (.cons (dL (by simp[h1]) rfl) .bZ) .nil ?_)
  refine AW.rg hE rfl (ai rfl (cl (kX hO (by omega)) rfl vL (ai rfl (cv it.u64 it.u32 rfl (c:=((r:Nat):Int)) (by rw[gG];omega) (aF rfl (aF rfl (OL.nil ?_)))))))
  exact AW.ret (aP.r ⟨_,.tmp rfl (.tmp rfl .nil),_,.cons (.le vR) (.cons (.le vR) .nil),by rw[<- hv1,<- hv2];rfl⟩)
theorem ah2 {x:Nat}(hx:x<4294967296):aj P F.uD [.d (zY x)] (.d (dI (rf x))):=by
 refine aj.intro fn.uD (by rfl) (by rfl) (aB (by rfl)) λE hE=>(AW.sg hE rfl (aF rfl (OL.nil (AW.mid (α:=Nat × Nat) (λ(y,s)=>[(0,.d (zY y)),(2,.d (dI s))]) (λ(y,s)=>[]) (λ(y,s)=>y<65536/\rf y+s=rf x/\s<=16) ?_ ?_))))
 .refine AW.sg hE rfl (ai rfl (qY rfl rfl rfl (OL.nil (AW.cond rfl (λh=>?_) (λh=>?_)))))
  .have h:=lq h;refine AW.sg hE rfl (ai rfl (Y0 rfl rfl ⟨by decide,by decide⟩ (c:=((x / 65536:Nat):Int)) (by show (x:Int) / 65536=_;omega) (aF rfl (OL.nil (AW.rg hE rfl (aF rfl (OL.nil ?_)))))))
   exact AW.reach (x / 65536,16) ⟨⟨by omega,Gg (k:=16) (by omega),by omega⟩,.iq,.nil⟩
  .have h:=nS h;exact AW.skip (AW.reach (x,0) ⟨⟨by omega,rfl,by omega⟩,.iq,.nil⟩)
 rintro⟨y,s⟩ ⟨h1,h2,h2s⟩
 refine AW.mid (α:=Nat × Nat) (λ(z,t)=>[(0,.d (zY z)),(2,.d (dI t))]) (λ(z,t)=>[]) (λ(z,t)=>z<256/\rf z+t=rf x/\t<=24) ?_ ?_
 .refine AW.sg hE rfl (ai rfl (qY rfl rfl rfl (OL.nil (AW.cond rfl (λh8=>?_) (λh8=>?_)))))
  .have h8:=lq h8;refine AW.sg hE rfl (ai rfl (Y0 rfl rfl ⟨by decide,by decide⟩ (c:=((y / 256:Nat):Int)) (by show (y:Int) / 256=_;omega) (aF rfl (OL.nil (AW.rg hE rfl (ai rfl (aI rfl rfl (by omega) ?_)))))))
   exact aF rfl (OL.nil (AW.reach (y / 256,s+8) ⟨⟨by omega,by have:=Gg (x:=y) (k:=8) (by omega);rw[show y / 256=y / 2 ^ 8 from rfl];omega,by omega⟩,.iq,.nil⟩))
  .have h8:=nS h8;exact AW.skip (AW.reach (y,s) ⟨⟨by omega,h2,by omega⟩,.iq,.nil⟩)
 rintro⟨z,t⟩ ⟨h3,h4,h4t⟩
 refine AW.seq ?_;have hz:=EQ (x:=z) (k:=8) (by omega)
 refine AW.rg hE rfl (ai rfl (ai rfl (cv it.u32 it.u8 rfl (c:=(z:Int)) (wrap_u8 (by omega)) (sAt st.str rfl rfl (q:=rf z) (tbl (by kernel_rfl) h3) (cv it.u8 it.int rfl (wrap_i64 (by omega)) (aI rfl rfl (by omega) (aF rfl ?_)))))))
 exact OL.nil (AW.ret (aP.r ⟨_,.tmp rfl .nil,.le (bG.int (by omega))⟩))
theorem Zg {x:Nat}(hx:x<4294967296):aj P F.jQ [.d (zY x)] (.d (dI (32-(rf x:Int)))):=by
 refine aj.intro fn.jQ (by rfl) (by rfl) (aB (by rfl)) λE hE=>(AW.sg hE rfl (aF rfl (OL.nil (AW.seq ?_))))
 have h0:=EQ (x:=x) (k:=32) (by omega)
 exact AW.rg hE rfl (ai rfl (cl (ah2 hx) rfl vL (gI rfl rfl (by omega) (aF rfl (OL.nil (AW.ret (aP.r ⟨_,.tmp rfl .nil,.le vR⟩)))))))

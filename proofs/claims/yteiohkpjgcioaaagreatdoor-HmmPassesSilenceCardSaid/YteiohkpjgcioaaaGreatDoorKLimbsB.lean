/-
  Walks of package rational, part 2: products, single limbs, shifts, the number of bits (printed by mk.py).
-/
import Derived.Test.YteiohkpjgcioaaaGreatDoorKHdr
set_option linter.unusedVariables false
set_option linter.unusedSimpArgs false
namespace Go.Proofs.YteiohkpjgcioaaaGreatDoor
open Go Go.AL
theorem NT {L:List Nat}{i:Int}(hL:jg L)(hi:0<=i):ai P F.mX [.d (aC L),.d (dI i)] (.d (dU (L.getD i.toNat 0))):=by
 refine ai.intro fn.mX (by rfl) (by rfl) (au (by rfl)) λE hE=>(AW.sg hE rfl (ay rfl (OL.nil (AW.seq (AW.sg hE rfl (ah rfl (ah rfl ?_)))))))
 refine eH sl.limbs rfl rfl (aN rfl rfl rfl (OL.nil (AW.cond rfl (λh=>?_) (λh=>?_))))
 .have h:=jC h;refine AW.sg hE rfl (ah rfl (ah rfl (ixL sl.limbs 0 rfl rfl (by omega) (by omega) rfl rfl (bP ce.u32 rfl (cv it.u32 it.u64 rfl (wrap_u64 ⟨by omega,by have:=hL.getD i.toNat;omega⟩) (ay rfl (OL.nil ?_)))))))
  exact AW.ret (aH.r ⟨_,.tmp rfl .nil,.le vR⟩)
 .have h:=kK h;exact AW.skip (AW.sg hE rfl (ay rfl (OL.nil (AW.ret (aH.r ⟨_,.tmp rfl .nil,.le (aZ.int (by rw[iZ,List.getElem?_eq_none (by omega)];rfl))⟩)))))
theorem oQ {L:List Nat}{i:Nat}(hL:jg L):ai P F.mX [.d (aC L),.d (dI i)] (.d (dU (L.getD i 0))):=NT hL (Int.natCast_nonneg i)
theorem lK {L:List Nat}(hL:jg L)(hn:L.length<=8796093022208):ai P F.mY [.d (aC L)] (.d (aC (lim (val L)))):=by
 refine ai.intro fn.mY (by rfl) (by rfl) (au (by rfl)) λE hE=>(AW.sg hE rfl (oq rfl (OL.nil (AW.seq (AW.block (AW.while (α:=List Nat) (λA=>[(0,.d (aC A))]) (λA=>[]) (λA=>jg A/\val A=val L/\A.length<=L.length) (λA=>A.length) L ⟨⟨hL,rfl,Nat.le_refl _⟩,.bC,.nil⟩ ?_))))))
 rintro A ⟨hA,hv,hl⟩
 refine AW.seq (AW.sg hE rfl (ah rfl (eH sl.limbs rfl rfl (iI rfl rfl rfl (OL.split 5 rfl (λh0=>?_) (λh0=>?_))))))
 .have h0:=jC h0;refine ah rfl (OL.yes rfl (ah rfl (OL.yes rfl (ah rfl (OL.yes rfl (eH sl.limbs rfl rfl (OL.yes rfl ?_)))))));refine fC rfl rfl (by omega) (OL.yes rfl (ixL sl.limbs 0 rfl rfl (by omega) (by omega) rfl rfl (OL.yes rfl (bP ce.u32 rfl (OL.yes rfl (dm rfl rfl rfl (OL.split 13 rfl (λh=>?_) (λh=>?_))))))))
  .have h:=jC h;refine iV rfl rfl (OL.nil (Hl rfl ?_));refine AW.skip (AW.block (AW.rg hE rfl (ah rfl (ah rfl (eH sl.limbs rfl rfl (fC rfl rfl (by omega) (ZY sl.limbs rfl rfl (λ_=>rfl) (by omega) (l2:=A.dropLast) (by rw[List.dropLast_eq_take];congr 1;omega) ?_)))))))
   exact ay rfl (OL.nil (AW.again (x:=A) A.dropLast (by rw[List.length_dropLast];omega) ⟨⟨hA.dropLast,by rw[<- hv,IZ (by omega) (by rw[zQ] at h;omega)],by rw[List.length_dropLast];omega⟩,.bC,.nil⟩))
  .have h:=kK h;refine iV rfl rfl (OL.nil (jD rfl ?_));exact AW.exit (AW.sg hE rfl (ah rfl (ay rfl (OL.nil (AW.ret (aH.r ⟨_,.tmp rfl .nil,.le (aI (by rw[<- hv,RH hA (YC (by omega) (by rw[zQ] at h;omega))];rfl))⟩))))))
 .have h0:=kK h0;refine ah rfl (OL.nd rfl (OL.nd rfl (OL.nd rfl (OL.nd rfl (OL.nd rfl (OL.nd rfl (OL.nd rfl ?_)))))));refine eG rfl rfl (OL.nil (jD rfl ?_));exact AW.exit (AW.sg hE rfl (ah rfl (ay rfl (OL.nil (AW.ret (aH.r ⟨_,.tmp rfl .nil,.le (aI (by rw[<- hv,al4 (L:=A) (by omega),jq,dY];rfl))⟩))))))
theorem zB {A C:List Nat}(hA:jg A)(hC:jg C)(nA:A.length<=8796093022208)(nC:C.length<=8796093022208):ai P F.pY [.d (aC A),.d (aC C)] (.d (dI (EG (val A) (val C)))):=by
 refine ai.intro fn.pY (by rfl) (by rfl) (au (by rfl)) λE hE=>(AW.sg hE rfl (ay rfl (OL.nil (AW.seq (AW.sg hE rfl (ah rfl (eH sl.limbs rfl rfl ?_)))))))
 refine ah rfl (eH sl.limbs rfl rfl (mx rfl rfl (c:=((max A.length C.length:Nat):Int)) (by omega) (fC rfl rfl (by omega) (ay rfl (OL.nil (AW.block ?_))))))
 refine AW.while (α:=Nat) (λn=>[(0,.d (aC A)),(1,.d (aC C)),(5,.d (dI ((n:Int)-1)))]) (λn=>[]) (λn=>n<=max A.length C.length/\∀ j,n<=j->A.getD j 0=C.getD j 0) (λn=>n) (max A.length C.length) ⟨⟨Nat.le_refl _,λj hj=>by rw[zO (by omega),zO (by omega)]⟩,.wL,.nil⟩ ?_
 rintro n ⟨hn,hh⟩
 refine AW.seq (AW.sg hE rfl (ah rfl (lG rfl rfl rfl (OL.nil (AW.cond rfl (λh=>?_) (λh=>?_))))))
 .have h:=jC h;refine AW.skip (AW.seq (AW.block (AW.seq ?_)));have e1:((n:Int)-1).toNat=n-1:=by omega
  have hx:=hA.getD (n-1);have hy:=hC.getD (n-1);refine AW.rg hE rfl (ah rfl (ah rfl (cl (NT hA (by omega)) rfl vL ?_)))
  rw[e1];refine ah rfl (ah rfl (cl (NT hC (by omega)) rfl vL ?_))
  rw[e1];refine ay rfl (ay rfl (OL.nil (AW.sg hE rfl (ah rfl (ah rfl (bU rfl rfl rfl (OL.nil ?_)))))));refine AW.cond rfl (λhne=>?_) (λhne=>?_)
  .have hne:=L6 hne;refine AW.sg hE rfl (ah rfl (ah rfl (Nv rfl rfl rfl (aK4 rfl rfl rfl (cv it.u64 it.int rfl (wrap_i64 (by omega)) (Ry rfl rfl (by omega) (fC rfl rfl (by omega) ?_)))))))
   exact ay rfl (OL.nil (AW.ret (aH.r ⟨_,.tmp rfl .nil,.le (aZ.int (by rw[al5 hA hC (i:=n-1) (λj hj=>hh j (by omega)) (by omega)];split <;> omega))⟩)))
  .have hne:A.getD (n-1) 0=C.getD (n-1) 0:=by have:=J3 hne;omega
   exact AW.skip (AW.rg hE rfl (ah rfl (fC rfl rfl (by omega) (ay rfl (OL.nil (AW.again (x:=n) (n-1) (by omega) ⟨⟨by omega,λj hj=>by rcases Nat.lt_or_ge j n with hj2|hj2;(have:j=n-1:=by omega);rw[this];exact hne;exact hh j hj2⟩,.cons vR (.cons vR (.cons (aZ.int (by omega)) .nil)),.nil⟩))))))
 .have h:=kK h;exact AW.exit (AW.sg hE rfl (ay rfl (OL.nil (AW.ret (aH.r ⟨_,.tmp rfl .nil,.le (aZ.int (by rw[Qd hA hC λj=>hh j (by omega)];simp[EG]))⟩)))))
theorem XB {A C:List Nat}(hA:jg A)(hC:jg C)(nA:A.length<=4398046511104)(nC:C.length<=4398046511104):ai P F.oG [.d (aC A),.d (aC C)] (.d (aC (lim (val A+val C)))):=by
 refine ai.intro fn.oG (by rfl) (by rfl) (au (by rfl)) λE hE=>(AW.sg hE rfl (oq rfl (OL.nil (AW.sg hE rfl (oq rfl (OL.nil (AW.sg hE rfl ?_)))))))
 refine ay rfl (OL.nil (AW.seq (AW.sg hE rfl (ay rfl (OL.nil (AW.own 5 34 T.u32 1 rfl rfl (AW.block ?_)))))));refine AW.while (α:=Nat × List Nat × Nat × Nat × Nat) (λ(i,out,sum,b,c)=>[(0,.d (aC A)),(1,.d (aC C)),(5,.bJ 34 b out.length c),(6,.d (dU sum)),(7,.d (dI i))]) (λ(i,out,sum,b,c)=>[(34,.row b c T.u32 1 (out.map AB))]) (λ(i,out,sum,b,c)=>out.length=i/\jg out/\val out+Bp i*sum=val (A.take i)+val (C.take i)/\sum<=1/\i<=max A.length C.length+1/\(i=max A.length C.length+1->sum=0)) (λ(i,out,sum,b,c)=>max A.length C.length+1-i) (0,[],0,0,0) ⟨⟨rfl,jg.nil,rfl,by omega,by omega,by omega⟩,.y9,.cons rfl .nil⟩ ?_
 rintro⟨i,out,sum,b,c⟩ ⟨h1,hO,h2,h3,h4,h5⟩
 refine AW.seq ?_;refine AW.mid (α:=Unit) (λ_u=>[(0,.d (aC A)),(1,.d (aC C)),(5,.bJ 34 b out.length c),(6,.d (dU sum)),(7,.d (dI i)),(18,.d (dB (decide (i<max A.length C.length \/ 0<sum))))]) (λ_u=>[(34,.row b c T.u32 1 (out.map AB))]) (λ_u=>True) ?_ ?_
 .refine AW.rg hE rfl (ah rfl (ah rfl (eH sl.limbs rfl rfl (ah rfl (eH sl.limbs rfl rfl (mx rfl rfl (c:=((max A.length C.length:Nat):Int)) (by omega) (aN rfl rfl rfl ?_)))))))
  refine OL.split 14 rfl (λhi=>?_) (λhi=>?_)
  .have hi:=jC hi;exact ah rfl (OL.nd rfl (OL.nd rfl (iV rfl rfl (OL.nil (AW.reach () ⟨trivial,.cons vR (.cons vR (.cons vR (.cons vR (.cons vR (.cons (aZ.bool (by simp;omega)) .nil))))),.cons rfl .nil⟩)))))
  .have hi:=kK hi;exact ah rfl (OL.yes rfl (ah rfl (OL.yes rfl (iI rfl rfl rfl (eG rfl rfl (OL.nil (AW.reach () ⟨trivial,.cons vR (.cons vR (.cons vR (.cons vR (.cons vR (.cons (aZ.bool (by simp;omega)) .nil))))),.cons rfl .nil⟩)))))))
 rintro⟨⟩ -
 refine AW.cond rfl (λh=>?_) (λh=>?_)
 .have h:=jC h;refine AW.skip (AW.seq (AW.block (AW.seq ?_)));have hx:=hA.getD i;have hy:=hC.getD i;refine AW.rg hE rfl (ah rfl (ah rfl (ah rfl (cl (oQ hA) rfl vL (ah rfl (ah rfl (cl (oQ hC) rfl vL ?_)))))));refine xB rfl rfl (by omega) (xB rfl rfl (by omega) (ay rfl (OL.nil (AW.sg hE rfl (fQ rfl (ah rfl (cv it.u64 it.u32 rfl (c:=(((sum+(A.getD i 0+C.getD i 0)) % 4294967296:Nat):Int)) (by rw[gW];omega) ?_)))))))
  refine tC sl.limbs (VC.d _).vd rfl (by decide) ?_
  refine yG sl.limbs rfl rfl rfl (by simp) (VC.d _) (by simp[D.cells]) (by simp;omega) (by simp;omega) (.inr rfl) (ys:=(out++[(sum+(A.getD i 0+C.getD i 0)) % 4294967296]).map AB) (by simp) (n2:=(out++[(sum+(A.getD i 0+C.getD i 0)) % 4294967296]).length) (by simp) λb2 c2=>?_
  refine uj rfl (OL.nil (AW.rg hE rfl (ah rfl (Lh rfl rfl rfl (ay rfl (OL.nil (AW.rg hE rfl ?_)))))));refine ah rfl (aB rfl rfl (by omega) (ay rfl (OL.nil ?_)))
  exact AW.again (x:=(i,out,sum,b,c)) (i+1,out++[(sum+(A.getD i 0+C.getD i 0)) % 4294967296],(sum+(A.getD i 0+C.getD i 0)) / 4294967296,b2,c2) (by (simp only[];omega)) ⟨⟨by simp[h1],hO.append (.cons (Nat.mod_lt _ (by decide)) .nil),by rw[zK,h1,fA hA,fA hC];exact Qe h2,by omega,by omega,λe=>by rw[zO (A:=A) (by omega),zO (A:=C) (by omega)];omega⟩,.y9,.cons rfl .nil⟩
 .have h:=kK h;refine AW.exit (AW.seq ?_);have hv:val out=val A+val C:=by
   have:=h2;rw[tJ (A:=A) (by omega),tJ (A:=C) (by omega),show sum=0 by omega] at this
   simpa using this
  refine AW.freeze 34 rfl (AW.to [(5,.d (aC out))] [] (.cons (dP (by simp) rfl) .nil) .nil ?_)
  exact AW.rg hE rfl (ah rfl (cl (lK hO (by omega)) rfl vL (ay rfl (OL.nil (AW.ret (aH.r ⟨_,.tmp rfl .nil,.le (aI (by rw[<- hv];rfl))⟩))))))
theorem Bq {A C:List Nat}(hA:jg A)(hC:jg C)(nA:A.length<=8796093022208)(hle:val C<=val A):ai P F.nG [.d (aC A),.d (aC C)] (.d (aC (lim (val A-val C)))):=by
 refine ai.intro fn.nG (by rfl) (by rfl) (au (by rfl)) λE hE=>(AW.sg hE rfl (oq rfl (OL.nil (AW.sg hE rfl (ah rfl (eH sl.limbs rfl rfl (Xd AB 0 sl.limbs z.u32 (.cons (VC.d _) .nil) rfl rfl (Nat.le_refl _) (by omega) (by omega) rfl λb11=>?_)))))))
 refine uj rfl (OL.nil (AW.sg hE rfl (ay rfl (OL.nil (AW.seq (AW.sg hE rfl (ah rfl ?_)))))));refine eH sl.limbs rfl rfl (ah rfl (OL.nil (AW.block ?_)));refine AW.while (α:=Nat × List Nat × Nat) (λ(i,out,less)=>[(0,.d (aC A)),(1,.d (aC C)),(5,.bJ 11 b11 A.length A.length),(6,.d (dU less)),(13,.d (dI A.length)),(14,.d (dI i))]) (λ(i,out,less)=>[(11,.row b11 A.length T.u32 1 (out.map AB))]) (λ(i,out,less)=>out.length=A.length/\jg out/\val (A.take i)+less*Bp i=val (out.take i)+val (C.take i)/\less<=1/\i<=A.length) (λ(i,out,less)=>A.length-i) (0,List.replicate A.length 0,0) ⟨⟨by simp,jg.zeros _,by simp[jq],by omega,by omega⟩,.Lj,.cons rfl .nil⟩ ?_
 rintro⟨i,out,less⟩ ⟨h1,hO,h2,h3,h4⟩
 refine AW.sg hE rfl (aN rfl rfl rfl (OL.nil (AW.seq (AW.cond rfl (λh=>?_) (λh=>?_)))))
 .have h:=jC h;refine AW.skip (AW.seq (AW.block (AW.sg hE rfl (ah rfl (ay rfl (OL.nil (AW.seq ?_)))))));have hx:=hA.getD i;have hy:=hC.getD i;refine AW.rg hE rfl (ah rfl (ah rfl (cl (oQ hA) rfl vL (ah rfl (ah rfl (cl (oQ hC) rfl vL (Nv rfl rfl rfl ?_)))))));refine ah rfl (Nv rfl rfl rfl (ay rfl (OL.nil (AW.rg hE rfl (fQ rfl (ah rfl (ah rfl ?_)))))));refine cv it.u64 it.u32 rfl (c:=(((A.getD i 0+4294967296-C.getD i 0-less) % 4294967296:Nat):Int)) (by rw[gW];omega) (ah rfl (aK4 rfl rfl rfl (dV sl.limbs rfl rfl (by omega) (AA sz.u32 rfl (VC.d _).vd rfl rfl (by simp;omega) (es2:=(out.set i ((A.getD i 0+4294967296-C.getD i 0-less) % 4294967296)).map AB) (by rw[List.map_set]) (ay rfl (OL.nil (AW.rg hE rfl ?_)))))))
  refine aB rfl rfl (by omega) (ah rfl (OL.nil ?_))
  exact AW.again (x:=(i,out,less)) (i+1,out.set i ((A.getD i 0+4294967296-C.getD i 0-less) % 4294967296),if A.getD i 0<C.getD i 0+less then 1 else 0) (by (simp only[];omega)) ⟨⟨by simp[h1],hO.set _ (Nat.mod_lt _ (by decide)),by rw[fA hA,fA hC,fA (hO.set _ (Nat.mod_lt _ (by decide))),List.take_set_of_le (Nat.le_refl _),Ho (by omega)];exact Nz h2 hx hy h3,by split <;> omega,by omega⟩,.cons vR (.cons vR (.cons vR (.cons (aZ.int (by split <;> omega)) .dR))),.cons rfl .nil⟩
 .have h:=kK h;refine AW.exit (AW.seq ?_);have hv:val out=val A-val C:=Qg hA hO h1 hle (by rw[show i=A.length by omega] at h2;exact h2) h3 hC
  refine AW.freeze 11 rfl (AW.to [(5,.d (aC out))] [] (.cons (dP (by simp[h1]) rfl) .nil) .nil ?_)
  exact AW.rg hE rfl (ah rfl (cl (lK hO (by omega)) rfl vL (ay rfl (OL.nil (AW.ret (aH.r ⟨_,.tmp rfl .nil,.le (aI (by rw[<- hv];rfl))⟩))))))
theorem uQ {A C:List Nat}(hA:jg A)(hC:jg C)(nA:A.length<=4398046511104)(nC:C.length<=4398046511104):ai P F.mV [.d (aC A),.d (aC C)] (.d (aC (lim (val A*val C)))):=by
 refine ai.intro fn.mV (by rfl) (by rfl) (au (by rfl)) λE hE=>(AW.sg hE rfl (oq rfl (OL.nil (AW.sg hE rfl (ah rfl (eH sl.limbs rfl rfl (ah rfl ?_)))))))
 refine eH sl.limbs rfl rfl (bo rfl rfl (dO (c:=((A.length+C.length:Nat):Int)) (by omega) (wrap_i64 (by omega))) (Xd AB 0 sl.limbs z.u32 (.cons (VC.d _) .nil) rfl rfl (Nat.le_refl _) (by omega) (by omega) rfl λb=>(uj rfl (OL.nil (AW.seq (AW.sg hE rfl (ah rfl ?_)))))))
 refine eH sl.limbs rfl rfl (ah rfl (OL.nil (AW.block ?_)));refine AW.while (α:=Nat × List Nat) (λ(i,out)=>[(0,.d (aC A)),(1,.d (aC C)),(5,.bJ 14 b (A.length+C.length) (A.length+C.length)),(16,.d (dI A.length)),(17,.d (dI i))]) (λ(i,out)=>[(14,.row b (A.length+C.length) T.u32 1 (out.map AB))]) (λ(i,out)=>out.length=A.length+C.length/\jg out/\val out=val (A.take i)*val C/\i<=A.length) (λ(i,out)=>A.length-i) (0,List.replicate (A.length+C.length) 0) ⟨⟨by simp,jg.zeros _,by simp[jq,FZ],by omega⟩,.y9,.cons rfl .nil⟩ ?_
 rintro⟨i,Sl⟩ ⟨h1,hO0,h2,h3⟩
 refine AW.sg hE rfl (aN rfl rfl rfl (OL.nil (AW.seq (AW.cond rfl (λh=>?_) (λh=>?_)))))
 .have h:=jC h;refine AW.skip (AW.seq (AW.block (AW.sg hE rfl (ah rfl (ay rfl (OL.nil (AW.sg hE rfl ?_)))))));refine ay rfl (OL.nil (AW.sg hE rfl (ay rfl (OL.nil (AW.block ?_)))));refine AW.while (α:=Nat × List Nat × Nat) (λ(j,out,sum)=>[(0,.d (aC A)),(1,.d (aC C)),(5,.bJ 14 b (A.length+C.length) (A.length+C.length)),(6,.d (dI i)),(7,.d (dU sum)),(8,.d (dI j)),(16,.d (dI A.length)),(17,.d (dI i))]) (λ(j,out,sum)=>[(14,.row b (A.length+C.length) T.u32 1 (out.map AB))]) (λ(j,out,sum)=>out.length=A.length+C.length/\jg out/\val out+sum*Bp (i+j)=val (A.take i)*val C+A.getD i 0*Bp i*val (C.take j)/\sum<=4294967295/\j<=C.length+1/\(j=C.length+1->sum=0)) (λ(j,out,sum)=>C.length+1-j) (0,Sl,0) ⟨⟨h1,hO0,by simp[jq,h2],by omega,by omega,by omega⟩,.Ny,.cons rfl .nil⟩ ?_
  rintro⟨j,out,sum⟩ ⟨g1,hO,g2,g3,g4,g5⟩
  refine AW.seq ?_;refine AW.mid (α:=Unit) (λ_u=>[(0,.d (aC A)),(1,.d (aC C)),(5,.bJ 14 b (A.length+C.length) (A.length+C.length)),(6,.d (dI i)),(7,.d (dU sum)),(8,.d (dI j)),(16,.d (dI A.length)),(17,.d (dI i)),(27,.d (dB (decide (j<C.length \/ 0<sum))))]) (λ_u=>[(14,.row b (A.length+C.length) T.u32 1 (out.map AB))]) (λ_u=>True) ?_ ?_
  .refine AW.rg hE rfl (ah rfl (ah rfl (eH sl.limbs rfl rfl (aN rfl rfl rfl (OL.split 23 rfl (λhj=>?_) (λhj=>?_))))))
   .have hj:=jC hj;exact ah rfl (OL.nd rfl (OL.nd rfl (iV rfl rfl (OL.nil (AW.reach () ⟨trivial,.cons vR (.cons vR (.cons vR (.cons vR (.cons vR (.cons vR (.cons vR (.cons vR (.cons (aZ.bool (by simp;omega)) .nil)))))))),.cons rfl .nil⟩)))))
   .have hj:=kK hj;exact ah rfl (OL.yes rfl (ah rfl (OL.yes rfl (iI rfl rfl rfl (eG rfl rfl (OL.nil (AW.reach () ⟨trivial,.cons vR (.cons vR (.cons vR (.cons vR (.cons vR (.cons vR (.cons vR (.cons vR (.cons (aZ.bool (by simp;omega)) .nil)))))))),.cons rfl .nil⟩)))))))
  rintro⟨⟩ -
  refine AW.cond rfl (λhc=>?_) (λhc=>?_)
  .have hc:=jC hc;refine AW.skip (AW.seq (AW.block (AW.seq ?_)));have ha:=hA.getD i;have hc2:=hC.getD j;have ho:=hO.getD (i+j);have hp:A.getD i 0*C.getD j 0<=4294967295*4294967295:=Nat.mul_le_mul (by omega) (by omega)
   have st1:val (out.set (i+j) ((sum+(out.getD (i+j) 0+A.getD i 0*C.getD j 0)) % 4294967296))+(sum+(out.getD (i+j) 0+A.getD i 0*C.getD j 0)) / 4294967296*Bp (i+(j+1))=val (A.take i)*val C+A.getD i 0*Bp i*val (C.take (j+1)):=by
    rw[fA hC];exact NC (by omega) g2 rfl
   refine AW.dg 1 [0,1,2,3,4,5,6,7,8,9,10,11,12,13,14,15,16,17] aj hE rfl (by kernel_rfl) (OI.aP (os:=[_,_,_,_,_,_,_,_,_,_,_,_,_,_,_,_,_,_]) rfl ?_)
   refine ah rfl (fQ rfl (ah rfl (ah rfl (aB rfl rfl (by omega) (Uj sl.limbs rfl rfl (by omega) (by omega) (i:=i+j) (by omega) (ES ce.u32 0 (by decide) rfl rfl (by omega) rfl (cv it.u32 it.u64 rfl (wrap_u64 (by omega)) ?_)))))))
   refine ah rfl (ah rfl (cl (oQ hA) rfl vL (ah rfl (ah rfl (cl (oQ hC) rfl vL (aB2 rfl rfl (by omega) (xB rfl rfl (by omega) ?_)))))))
   refine xB rfl rfl (by omega) (ay rfl (OL.nil (AW.sg hE rfl (fQ rfl (ah rfl (ah rfl (aB rfl rfl (by omega) ?_)))))))
   refine ah rfl (cv it.u64 it.u32 rfl (c:=(((sum+(out.getD (i+j) 0+A.getD i 0*C.getD j 0)) % 4294967296:Nat):Int)) (by rw[gW];omega) (Uj sl.limbs rfl rfl (by omega) (by omega) (i:=i+j) (by omega) (AA sz.u32 rfl (VC.d _).vd rfl rfl (by simp;omega) (es2:=(out.set (i+j) ((sum+(out.getD (i+j) 0+A.getD i 0*C.getD j 0)) % 4294967296)).map AB) (by rw[List.map_set]) (OL.nil (AW.rg hE rfl (ah rfl (Lh rfl rfl rfl ?_)))))))
   refine ay rfl (OL.nil (AW.rg hE rfl (ah rfl (aB rfl rfl (by omega) (ay rfl (OL.nil ?_))))))
   exact AW.again (x:=(j,out,sum)) (j+1,out.set (i+j) ((sum+(out.getD (i+j) 0+A.getD i 0*C.getD j 0)) % 4294967296),(sum+(out.getD (i+j) 0+A.getD i 0*C.getD j 0)) / 4294967296) (by (simp only[];omega)) ⟨⟨by simp[g1],hO.set _ (Nat.mod_lt _ (by decide)),st1,by omega,by omega,λe=>Z4 hA hC (j:=j+1) (by omega) st1 e.symm⟩,.Ny,.cons rfl .nil⟩
  .have hc:=kK hc;refine AW.exit (AW.rg hE rfl (aB rfl rfl (by omega) (ah rfl (OL.nil ?_))))
   exact AW.again (x:=(i,Sl)) (i+1,out) (by (simp only[];omega)) ⟨⟨g1,hO,Xg hA (j:=j) (by omega) (by rw[show sum=0 by omega] at g2;exact g2),by omega⟩,.y9,.cons rfl .nil⟩
 .have h:=kK h;refine AW.exit (AW.seq ?_);have hv:val Sl=val A*val C:=by rw[h2,tJ (by omega)]
  refine AW.freeze 14 rfl (AW.to [(5,.d (aC Sl))] [] (.cons (dP (by simp[h1]) rfl) .nil) .nil ?_)
  exact AW.rg hE rfl (ah rfl (cl (lK hO0 (by omega)) rfl vL (ay rfl (OL.nil (AW.ret (aH.r ⟨_,.tmp rfl .nil,.le (aI (by rw[<- hv];rfl))⟩))))))
theorem UX {A:List Nat}{d:Nat}(hA:jg A)(nA:A.length<=8796093022208)(h0:0<d)(hd:d<4294967296):ai P F.nD [.d (aC A),.d (AB d)] (.jM [.d (aC (lim (val A / d))),.d (AB (val A % d))]):=by
 refine ai.intro fn.nD (by rfl) (by rfl) (au (by rfl)) λE hE=>(AW.sg hE rfl (oq rfl (ay rfl (OL.nil (AW.sg hE rfl (ah rfl (eH sl.limbs rfl rfl ?_)))))))
 refine Xd AB 0 sl.limbs z.u32 (.cons (VC.d _) .nil) rfl rfl (Nat.le_refl _) (by omega) (by omega) rfl λb=>(uj rfl (ay rfl (OL.nil (AW.seq (AW.sg hE rfl (ah rfl (eH sl.limbs rfl rfl ?_)))))))
 refine fC rfl rfl (by omega) (ay rfl (OL.nil (AW.block ?_)))
 refine AW.while (α:=Nat × List Nat × Nat) (λ(n,out,r)=>[(0,.d (aC A)),(1,.d (AB d)),(6,.bJ 11 b A.length A.length),(7,.d (dU r)),(8,.d (dI ((n:Int)-1)))]) (λ(n,out,r)=>[(11,.row b A.length T.u32 1 (out.map AB))]) (λ(n,out,r)=>out.length=A.length/\jg out/\val A / Bp n=val (out.drop n)*d+r/\r<d/\n<=A.length) (λ(n,out,r)=>n) (A.length,List.replicate A.length 0,0) ⟨⟨by simp,jg.zeros _,by rw[Nat.div_eq_of_lt (zL hA),List.drop_eq_nil_of_le (by simp),jq];omega,h0,Nat.le_refl _⟩,.y9,.cons rfl .nil⟩ ?_
 rintro⟨n,out,r⟩ ⟨h1,hO,h2,h3,h4⟩
 refine AW.seq (AW.sg hE rfl (ah rfl (lG rfl rfl rfl (OL.nil (AW.cond rfl (λh=>?_) (λh=>?_))))))
 .have h:=jC h;refine AW.skip (AW.seq (AW.block (AW.seq ?_)));have ha:=hA.getD (n-1);have e1:((n:Int)-1).toNat=n-1:=by omega
  have hq:(r*4294967296+A.getD (n-1) 0) / d<4294967296:=Nat.div_lt_of_lt_mul (by have:=Nat.mul_le_mul_right 4294967296 (show r+1<=d from h3);omega)
  refine AW.rg hE rfl (ah rfl (ak9 rfl rfl rfl (by omega) (ah rfl (ah rfl (ixL sl.limbs 0 rfl rfl (by omega) (by omega) rfl rfl ?_)))))
  rw[e1];refine bP ce.u32 rfl (cv it.u32 it.u64 rfl (wrap_u64 (by omega)) (orA (a:=r*4294967296) (b:=A.getD (n-1) 0) 32 r rfl rfl rfl (by omega) (by omega) (ay rfl (OL.nil (AW.sg hE rfl (fQ rfl (ah rfl ?_)))))))
  refine ah rfl (ah rfl (cv it.u32 it.u64 rfl (wrap_u64 (by omega)) (bo rfl rfl (c:=.int .u64 (((r*4294967296+A.getD (n-1) 0) / d:Nat):Int)) (YB (by omega) (by omega)) (cv it.u64 it.u32 rfl (c:=(((r*4294967296+A.getD (n-1) 0) / d:Nat):Int)) (wrap_u32 ⟨Int.natCast_nonneg _,by generalize (r*4294967296+A.getD (n-1) 0) / d=q at hq ⊢;omega⟩) (Uj sl.limbs rfl rfl (by omega) (by omega) (i:=n-1) (by omega) (AA sz.u32 rfl (VC.d _).vd rfl rfl (by simp;omega) (es2:=(out.set (n-1) ((r*4294967296+A.getD (n-1) 0) / d)).map AB) (by rw[List.map_set]) (OL.nil ?_)))))))
  refine AW.rg hE rfl (ah rfl (ah rfl (cv it.u32 it.u64 rfl (wrap_u64 (by omega)) (bo rfl rfl (c:=.int .u64 (((r*4294967296+A.getD (n-1) 0) % d:Nat):Int)) (aB3 (by omega)) (ay rfl (OL.nil (AW.rg hE rfl ?_)))))))
  refine ah rfl (fC rfl rfl (by omega) (ay rfl (OL.nil ?_)))
  exact AW.again (x:=(n,out,r)) (n-1,out.set (n-1) ((r*4294967296+A.getD (n-1) 0) / d),(r*4294967296+A.getD (n-1) 0) % d) (by (simp only[];omega)) ⟨⟨by simp[h1],hO.set _ hq,by rw[Hq (by omega) (by omega)];exact Xh h0 hA (by omega) h2,Nat.mod_lt _ h0,by omega⟩,.cons vR (.cons vR (.cons vR (.cons vR (.cons (aZ.int (by omega)) .nil)))),.cons rfl .nil⟩
 .have h:=kK h;refine AW.exit (AW.seq ?_);have hv:val A=val out*d+r:=by have:=h2;rw[show n=0 by omega] at this;simpa [rM] using this
  have hu:=(Nat.div_mod_unique (a:=val A) (c:=r) (d:=val out) h0).2 ⟨by rw[Nat.mul_comm d];omega,h3⟩
  have hv1:val out=val A / d:=hu.1.symm;have hv2:r=val A % d:=hu.2.symm;refine AW.freeze 11 rfl (AW.to [(6,.d (aC out)),(7,.d (dU r))] [] (.cons (dP (by simp[h1]) rfl) .bC) .nil ?_)
  refine AW.rg hE rfl (ah rfl (cl (lK hO (by omega)) rfl vL (ah rfl (cv it.u64 it.u32 rfl (c:=((r:Nat):Int)) (by rw[gW];omega) (ay rfl (ay rfl (OL.nil ?_)))))))
  exact AW.ret (aH.r ⟨_,.tmp rfl (.tmp rfl .nil),_,.cons (.le vR) (.cons (.le vR) .nil),by rw[<- hv1,<- hv2];rfl⟩)
theorem an9 {x:Nat}(hx:x<4294967296):ai P F.uo [.d (AB x)] (.d (dI (o8 x))):=by
 refine ai.intro fn.uo (by rfl) (by rfl) (au (by rfl)) λE hE=>(AW.sg hE rfl (ay rfl (OL.nil (AW.mid (α:=Nat × Nat) (λ(y,s)=>[(0,.d (AB y)),(2,.d (dI s))]) (λ(y,s)=>[]) (λ(y,s)=>y<65536/\o8 y+s=o8 x/\s<=16) ?_ ?_))))
 .refine AW.sg hE rfl (ah rfl (lG rfl rfl rfl (OL.nil (AW.cond rfl (λh=>?_) (λh=>?_)))))
  .have h:=jC h;refine AW.sg hE rfl (ah rfl (RD rfl rfl ⟨by decide,by decide⟩ (c:=((x / 65536:Nat):Int)) (by show (x:Int) / 65536=_;omega) (ay rfl (OL.nil (AW.rg hE rfl (ay rfl (OL.nil ?_)))))))
   exact AW.reach (x / 65536,16) ⟨⟨by omega,Ic (k:=16) (by omega),by omega⟩,.dR,.nil⟩
  .have h:=kK h;exact AW.skip (AW.reach (x,0) ⟨⟨by omega,rfl,by omega⟩,.dR,.nil⟩)
 rintro⟨y,s⟩ ⟨h1,h2,h2s⟩
 refine AW.mid (α:=Nat × Nat) (λ(z,t)=>[(0,.d (AB z)),(2,.d (dI t))]) (λ(z,t)=>[]) (λ(z,t)=>z<256/\o8 z+t=o8 x/\t<=24) ?_ ?_
 .refine AW.sg hE rfl (ah rfl (lG rfl rfl rfl (OL.nil (AW.cond rfl (λh8=>?_) (λh8=>?_)))))
  .have h8:=jC h8;refine AW.sg hE rfl (ah rfl (RD rfl rfl ⟨by decide,by decide⟩ (c:=((y / 256:Nat):Int)) (by show (y:Int) / 256=_;omega) (ay rfl (OL.nil (AW.rg hE rfl (ah rfl (aB rfl rfl (by omega) ?_)))))))
   exact ay rfl (OL.nil (AW.reach (y / 256,s+8) ⟨⟨by omega,by have:=Ic (x:=y) (k:=8) (by omega);rw[show y / 256=y / 2 ^ 8 from rfl];omega,by omega⟩,.dR,.nil⟩))
  .have h8:=kK h8;exact AW.skip (AW.reach (y,s) ⟨⟨by omega,h2,by omega⟩,.dR,.nil⟩)
 rintro⟨z,t⟩ ⟨h3,h4,h4t⟩
 refine AW.seq ?_;have hz:=BQ (x:=z) (k:=8) (by omega)
 refine AW.rg hE rfl (ah rfl (ah rfl (cv it.u32 it.u8 rfl (c:=(z:Int)) (wrap_u8 (by omega)) (sAt st.str rfl rfl (q:=o8 z) (tbl (by kernel_rfl) h3) (cv it.u8 it.int rfl (wrap_i64 (by omega)) (aB rfl rfl (by omega) (ay rfl ?_)))))))
 exact OL.nil (AW.ret (aH.r ⟨_,.tmp rfl .nil,.le (aZ.int (by omega))⟩))
theorem ab3 {x:Nat}(hx:x<4294967296):ai P F.jX [.d (AB x)] (.d (dI (32-(o8 x:Int)))):=by
 refine ai.intro fn.jX (by rfl) (by rfl) (au (by rfl)) λE hE=>(AW.sg hE rfl (ay rfl (OL.nil (AW.seq ?_))))
 have h0:=BQ (x:=x) (k:=32) (by omega)
 exact AW.rg hE rfl (ah rfl (cl (an9 hx) rfl vL (fC rfl rfl (by omega) (ay rfl (OL.nil (AW.ret (aH.r ⟨_,.tmp rfl .nil,.le vR⟩)))))))

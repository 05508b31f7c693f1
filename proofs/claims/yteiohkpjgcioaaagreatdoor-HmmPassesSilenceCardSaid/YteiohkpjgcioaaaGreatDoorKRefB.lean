/-
  Walks of the reference's numbers, part 2: division (printed by mk2.py).
-/
import Derived.Test.YteiohkpjgcioaaaGreatDoorKRatB
set_option linter.unusedVariables false
set_option linter.unusedSimpArgs false
namespace Go.Proofs.YteiohkpjgcioaaaGreatDoor
open Go Go.AL
theorem Fe {L:List Nat}(hL:jg L)(hn:L.length<=8796093022208):ai P F.DL [.d (aC L)] (.d (aC (lim (val L)))):=by
 refine ai.intro fn.DL (by rfl) (by rfl) (au (by rfl)) λE hE=>(AW.sg hE rfl (oq rfl (OL.nil (AW.seq (AW.block (AW.aK (α:=List Nat) [(2,_)] [] (λA=>[(0,.d (aC A))]) (λA=>[]) (λA=>jg A/\val A=val L/\A.length<=L.length) (λA=>A.length) L (.cons (zi rfl) .nil) .nil ⟨⟨hL,rfl,Nat.le_refl _⟩,.bC,.nil⟩ ?_))))))
 rintro A ⟨hA,hv,hl⟩
 refine AW.seq (AW.sg hE rfl (ah rfl (eH sl.aC rfl rfl (iI rfl rfl rfl (ah rfl (OL.split 6 rfl (λg6=>?_) (λg6=>?_)))))))
 .try simp only[bY] at g6
  refine OL.yes rfl (ah rfl (OL.yes rfl (ah rfl (OL.yes rfl (eH sl.aC rfl rfl (OL.yes rfl (fC rfl rfl (by omega) ?_)))))))
  refine OL.yes rfl (ixL sl.aC 0 rfl rfl (by omega) (by omega) rfl rfl (OL.yes rfl (bP ce.u32 rfl (OL.yes rfl (dm rfl rfl rfl (iV rfl rfl (OL.nil ?_)))))))
  refine AW.cond rfl (λAO=>?_) (λAO=>?_)
  .try simp only[bY] at AO
   refine AW.skip (AW.block (AW.rg hE rfl (ah rfl (ah rfl (eH sl.aC rfl rfl (fC rfl rfl (by omega) (ZY sl.aC rfl rfl (λ_=>rfl) (by omega) (l2:=A.dropLast) (by rw[List.dropLast_eq_take];congr 1;omega) ?_)))))))
   refine ay rfl (OL.nil ?_);exact AW.again (x:=A) A.dropLast (by rw[List.length_dropLast];omega) ⟨⟨hA.dropLast,by rw[<- hv,IZ (by omega) (by rw[zQ] at AO;omega)],by rw[List.length_dropLast];omega⟩,Knows.app .bC .bC,.nil⟩
  .try simp only[bY] at AO
   exact AW.exit (AW.sg hE rfl (ah rfl (ay rfl (OL.nil (AW.ret (aH.r ⟨_,.tmp rfl .nil,.le (aI (by rw[<- hv,RH hA (YC (by omega) (by rw[zQ] at AO;omega))];rfl))⟩))))))
 .try simp only[bY] at g6
  refine OL.nd rfl (OL.nd rfl (OL.nd rfl (OL.nd rfl (OL.nd rfl (OL.nd rfl (OL.nd rfl (eG rfl rfl ?_)))))));refine OL.nil (jD rfl ?_);exact AW.exit (AW.sg hE rfl (ah rfl (ay rfl (OL.nil (AW.ret (aH.r ⟨_,.tmp rfl .nil,.le (aI (by rw[<- hv,al4 (L:=A) (by omega),jq,dY];rfl))⟩))))))
theorem LG {v:Nat}(hv:v<18446744073709551616):ai P F.xH [.d (dU v)] (.d (aC (lim v))):=by
 refine ai.intro fn.xH (by rfl) (by rfl) (au (by rfl)) λE hE=>(AW.sg hE rfl (oq rfl (OL.nil (AW.sg hE rfl (ah rfl (cv it.u64 it.u32 rfl (c:=((v % 4294967296:Nat):Int)) (by rw[gW];omega) (ah rfl ?_)))))))
 refine Lh rfl rfl rfl (cv it.u64 it.u32 rfl (c:=((v / 4294967296:Nat):Int)) (by rw[gW];omega) (lt2 sl.aC (VC.d _).vd (VC.d _).vd ⟨rfl,rfl⟩ (by decide) (cl (Fe (L:=[v % 4294967296,v / 4294967296]) (.cons (by omega) (.cons (by omega) .nil)) (by simp)) rfl vL ?_)))
 rw[show val [v % 4294967296,v / 4294967296]=v by simp only[jr,jq];omega]
 exact ay rfl (OL.nil (AW.ret (aH.r ⟨_,.tmp rfl .nil,.le vR⟩)))
theorem UZ {v:Int}:ai P F.DR [.d (dI v)] (.d (dI (UK v))):=by
 refine ai.intro fn.DR (by rfl) (by rfl) (au (by rfl)) λE hE=>(AW.sg hE rfl (ay rfl (OL.nil (AW.seq (AW.block (AW.sg hE rfl (ah rfl ?_)))))))
 refine aN rfl rfl rfl (ay rfl (OL.nil (AW.cond rfl (λh3=>?_) (λh3=>?_))))
 .try simp only[bY] at h3
  exact AW.sg hE rfl (ay rfl (OL.nil (AW.ret (aH.r ⟨_,.tmp rfl .nil,.le (aZ.int (by unfold UK;rw[if_pos h3]))⟩))))
 .try simp only[bY] at h3
  refine AW.sg hE rfl (ah rfl (iI rfl rfl rfl (ay rfl (OL.nil (AW.cond rfl (λh6=>?_) (λh6=>?_))))))
  .try simp only[bY] at h6
   exact AW.sg hE rfl (ay rfl (OL.nil (AW.ret (aH.r ⟨_,.tmp rfl .nil,.le (aZ.int (by unfold UK;rw[if_neg h3,if_pos h6]))⟩))))
  .try simp only[bY] at h6
   exact AW.skip (AW.sg hE rfl (ay rfl (OL.nil (AW.ret (aH.r ⟨_,.tmp rfl .nil,.le (aZ.int (by unfold UK;rw[if_neg h3,if_neg h6]))⟩)))))
theorem LH {a b:Nat}(na:(lim a).length<=8796093022208)(nb:(lim b).length<=8796093022208):ai P F.xF [.d (aC (lim a)),.d (aC (lim b))] (.d (dI (EG a b))):=by
 refine ai.intro fn.xF (by rfl) (by rfl) (au (by rfl)) λE hE=>(AW.sg hE rfl (ay rfl (OL.nil (AW.seq (AW.sg hE rfl (ah rfl (eH sl.aC rfl rfl ?_)))))))
 refine ah rfl (eH sl.aC rfl rfl (bU rfl rfl rfl (OL.nil (AW.cond rfl (λh10=>?_) (λh10=>?_)))))
 .try simp only[bY] at h10
  refine AW.sg hE rfl (ah rfl (eH sl.aC rfl rfl (ah rfl (eH sl.aC rfl rfl (fC rfl rfl (by omega) (aY rfl .bC (UZ) (ay rfl ?_)))))))
  exact OL.nil (AW.ret (aH.r ⟨_,.tmp rfl .nil,.le (aI (by rw[aC2 (by omega)];rfl))⟩))
 .try simp only[bY] at h10
  refine AW.skip (AW.seq (AW.sg hE rfl (ah rfl (eH sl.aC rfl rfl (fC rfl rfl (by omega) (ay rfl (OL.nil ?_)))))))
  refine AW.block ?_;refine AW.aK (α:=Nat) [(0,_),(1,_)] [] (λn=>[(5,.d (dI ((n:Int)-1)))]) (λn=>[]) (λn=>n<=(lim a).length/\∀ j,n<=j->(lim a).getD j 0=(lim b).getD j 0) (λn=>n) (lim a).length (.cons (bM rfl) (.cons (bM rfl) .nil)) .nil ⟨⟨Nat.le_refl _,λj hj=>by rw[zO (by omega),zO (by omega)]⟩,.bC,.nil⟩ ?_
  rintro n ⟨hn,hh⟩
  refine AW.seq (AW.sg hE rfl (ah rfl (lG rfl rfl rfl (OL.nil (AW.cond rfl (λh=>?_) (λh=>?_))))))
  .have h:=jC h;have e1:((n:Int)-1).toNat=n-1:=by omega
   have hx:=(bG a).getD (n-1);have hy:=(bG b).getD (n-1);refine AW.skip (AW.seq (AW.block (AW.seq (AW.dg 1 [0,1,2,3,4,5,6,7,8] aj hE rfl (by kernel_rfl) (OI.aP (os:=[_,_,_,_,_,_,_,_,_]) rfl ?_)))))
   refine ah rfl (ah rfl (PI (n-1) sl.aC 0 rfl rfl (by omega) (by omega) rfl rfl (bP ce.u32 rfl (ah rfl (ah rfl (PI (n-1) sl.aC 0 rfl rfl (by omega) (by omega) rfl rfl (bP ce.u32 rfl ?_)))))))
   refine bU rfl rfl rfl (OL.nil (AW.cond rfl (λhne=>?_) (λhne=>?_)))
   .have hne:(lim a).getD (n-1) 0≠(lim b).getD (n-1) 0:=by have:=L6 hne;omega
    refine AW.seq (AW.dg 1 [0,1,2,3,4,5,6,7,8,9,10,11,12] aj hE rfl (by kernel_rfl) (OI.aP (os:=[_,_,_,_,_,_,_,_,_,_,_,_,_]) rfl ?_))
    refine ah rfl (ah rfl (PI (n-1) sl.aC 0 rfl rfl (by omega) (by omega) rfl rfl (bP ce.u32 rfl (cv it.u32 it.int rfl (wrap_i64 (by omega)) (ah rfl (ah rfl (PI (n-1) sl.aC 0 rfl rfl (by omega) (by omega) rfl rfl ?_)))))))
    exact bP ce.u32 rfl (cv it.u32 it.int rfl (wrap_i64 (by omega)) (fC rfl rfl (by omega) (aY rfl .bC (UZ) (ay rfl (OL.nil (AW.ret (aH.r ⟨_,.tmp rfl .nil,.le (aZ.int (by rw[aC3 (al5 (bG a) (bG b) (i:=n-1) (λj hj=>hh j (by omega)) hne) hne,bF,bF]))⟩)))))))
   .have hne:(lim a).getD (n-1) 0=(lim b).getD (n-1) 0:=by have:=J3 hne;omega
    refine AW.skip (AW.rg hE rfl (ah rfl (fC rfl rfl (by omega) (ay rfl (OL.nil ?_)))))
    exact AW.again (x:=n) (n-1) (by omega) ⟨⟨by omega,λj hj=>by rcases Nat.lt_or_ge j n with hj2|hj2;(have:j=n-1:=by omega);rw[this];omega;exact hh j hj2⟩,Knows.app .dR (.cons (aZ.int (by omega)) .nil),.nil⟩
  .have h:=kK h;exact AW.exit (AW.sg hE rfl (ay rfl (OL.nil (AW.ret (aH.r ⟨_,.tmp rfl .nil,.le (aZ.int (by have h:=Qd (bG a) (bG b) λj=>hh j (by omega);rw[bF,bF] at h;subst h;simp[EG]))⟩)))))
theorem Jl {L:List Nat}{i:Nat}(hL:jg L):ai P F.DN [.d (aC L),.d (dI i)] (.d (dU (L.getD i 0))):=by
 refine ai.intro fn.DN (by rfl) (by rfl) (au (by rfl)) λE hE=>(AW.sg hE rfl (ay rfl (OL.nil (AW.seq (AW.sg hE rfl (ah rfl (ah rfl ?_)))))))
 refine eH sl.aC rfl rfl (lG rfl rfl rfl (OL.nil (AW.cond rfl (λh8=>?_) (λh8=>?_))))
 .try simp only[bY] at h8
  exact AW.sg hE rfl (ay rfl (OL.nil (AW.ret (aH.r ⟨_,.tmp rfl .nil,.le (aZ.int (by rw[zO (by omega)];rfl))⟩))))
 .try simp only[bY] at h8
  refine AW.skip (AW.sg hE rfl (ah rfl (ah rfl (bg sl.aC 0 rfl rfl (by omega) rfl rfl (bP ce.u32 rfl (cv it.u32 it.u64 rfl (wrap_u64 ⟨by omega,by have:=hL.getD i;omega⟩) (ay rfl ?_)))))))
  exact OL.nil (AW.ret (aH.r ⟨_,.tmp rfl .nil,.le vR⟩))
theorem ao1 {A C:List Nat}(hA:jg A)(hC:jg C)(nA:A.length<=4398046511104)(nC:C.length<=4398046511104):ai P F.Aa [.d (aC A),.d (aC C)] (.d (aC (lim (val A+val C)))):=by
 refine ai.intro fn.Aa (by rfl) (by rfl) (au (by rfl)) λE hE=>(AW.sg hE rfl (oq rfl (OL.nil (AW.sg hE rfl (oq rfl (OL.nil (AW.sg hE rfl ?_)))))))
 refine ay rfl (OL.nil (AW.seq (AW.sg hE rfl (ay rfl (OL.nil (AW.own 5 31 T.u32 1 rfl rfl (AW.block ?_)))))));refine AW.aK (α:=Nat × List Nat × Nat × Nat × Nat) [(0,_),(1,_),(4,_)] [] (λ(i,out,sum,b,c)=>[(5,.bJ 31 b out.length c),(6,.d (dU sum)),(7,.d (dI i))]) (λ(i,out,sum,b,c)=>[(31,.row b c T.u32 1 (out.map AB))]) (λ(i,out,sum,b,c)=>out.length=i/\jg out/\val out+Bp i*sum=val (A.take i)+val (C.take i)/\sum<=1/\i<=max A.length C.length+1) (λ(i,out,sum,b,c)=>max A.length C.length+1-i) (0,[],0,0,0) (.cons (bM rfl) (.cons (bM rfl) (.cons (zi rfl) .nil))) .nil ⟨⟨rfl,jg.nil,rfl,by omega,by omega⟩,.wL,.cons rfl .nil⟩ ?_
 rintro⟨i,out,sum,b,c⟩ ⟨h1,hO,h2,h3,h4⟩
 refine AW.seq (AW.sg hE rfl (ah rfl (ah rfl (eH sl.aC rfl rfl (ah rfl (eH sl.aC rfl rfl (mx rfl rfl (c:=((max A.length C.length:Nat):Int)) (by omega) ?_)))))))
 refine x8 rfl rfl rfl (OL.nil (AW.cond rfl (λh15=>?_) (λh15=>?_)))
 .try simp only[bY] at h15
  refine AW.skip (AW.seq (AW.block (AW.seq ?_)));have hx:=hA.getD i;have hy:=hC.getD i;refine AW.rg hE rfl (ah rfl (ah rfl (aY rfl .dR (Jl (by assumption)) (ah rfl (ah rfl (aY rfl .dR (Jl (by assumption)) (xB rfl rfl (by omega) ?_)))))))
  refine ah rfl (xB rfl rfl (by omega) (ay rfl (OL.nil (AW.rg hE rfl (fQ rfl (ah rfl (cv it.u64 it.u32 rfl (c:=(((sum+(A.getD i 0+C.getD i 0)) % 4294967296:Nat):Int)) (by rw[gW];omega) ?_)))))))
  refine tC sl.aC (VC.d _).vd rfl (by decide) ?_
  refine yG sl.aC rfl rfl rfl (by simp) (VC.d _) (by simp[D.cells]) (by simp;omega) (by simp;omega) (.inr rfl) (ys:=(out++[(sum+(A.getD i 0+C.getD i 0)) % 4294967296]).map AB) (by simp) (n2:=(out++[(sum+(A.getD i 0+C.getD i 0)) % 4294967296]).length) (by simp) λb2 c2=>?_
  refine ah rfl (Lh rfl rfl rfl (uj rfl (ay rfl (OL.nil (AW.rg hE rfl (ah rfl (aB rfl rfl (by omega) ?_)))))))
  refine ay rfl (OL.nil ?_);exact AW.again (x:=(i,out,sum,b,c)) (i+1,out++[(sum+(A.getD i 0+C.getD i 0)) % 4294967296],(sum+(A.getD i 0+C.getD i 0)) / 4294967296,b2,c2) (by (simp only[];omega)) ⟨⟨by simp[h1],hO.append (.cons (Nat.mod_lt _ (by decide)) .nil),by rw[zK,h1,fA hA,fA hC];exact Qe h2,by omega,by omega⟩,Knows.app .wL (.cons vR (.cons (aZ.int (by omega)) .bC)),.cons rfl .nil⟩
 .try simp only[bY] at h15
  refine AW.exit (AW.seq ?_);have hv:val out=val A+val C:=am7 hA hC (by omega) h1 h2
  refine AW.freeze 31 rfl (AW.to [(5,.d (aC out))] [] (.cons (dP (by simp) rfl) .nil) .nil ?_)
  exact AW.rg hE rfl (ah rfl (aY rfl .bC (Fe (by assumption) (by omega)) (ay rfl (OL.nil (AW.ret (aH.r ⟨_,.tmp rfl .nil,.le (aI (by rw[<- hv];rfl))⟩))))))
theorem ab4 {A C:List Nat}(hA:jg A)(hC:jg C)(nA:A.length<=8796093022208)(hle:val C<=val A):ai P F.yj [.d (aC A),.d (aC C)] (.d (aC (lim (val A-val C)))):=by
 refine ai.intro fn.yj (by rfl) (by rfl) (au (by rfl)) λE hE=>(AW.sg hE rfl (oq rfl (OL.nil (AW.sg hE rfl (oq rfl (OL.nil (AW.sg hE rfl ?_)))))))
 refine ay rfl (OL.nil (AW.seq (AW.sg hE rfl (ay rfl (OL.nil (AW.own 5 29 T.u32 1 rfl rfl (AW.block ?_)))))));refine AW.aK (α:=Nat × List Nat × Nat × Nat × Nat) [(0,_),(1,_),(4,_)] [] (λ(i,out,less,b,c)=>[(5,.bJ 29 b out.length c),(6,.d (dU less)),(7,.d (dI i))]) (λ(i,out,less,b,c)=>[(29,.row b c T.u32 1 (out.map AB))]) (λ(i,out,less,b,c)=>out.length=i/\jg out/\val (A.take i)+less*Bp i=val out+val (C.take i)/\less<=1/\i<=A.length) (λ(i,out,less,b,c)=>A.length-i) (0,[],0,0,0) (.cons (bM rfl) (.cons (bM rfl) (.cons (zi rfl) .nil))) .nil ⟨⟨rfl,jg.nil,by simp[jq],by omega,by omega⟩,.wL,.cons rfl .nil⟩ ?_
 rintro⟨i,out,less,b,c⟩ ⟨h1,hO,h2,h3,h4⟩
 refine AW.seq (AW.sg hE rfl (ah rfl (ah rfl (eH sl.aC rfl rfl (aN rfl rfl rfl (OL.nil (AW.cond rfl (λh12=>?_) (λh12=>?_))))))))
 .try simp only[bY] at h12
  refine AW.skip (AW.seq (AW.block (AW.seq ?_)));have hx:=hA.getD i;have hy:=hC.getD i;refine AW.rg hE rfl (ah rfl (ah rfl (aY rfl .dR (Jl (by assumption)) (xB rfl rfl (by omega) (ah rfl (ah rfl (aY rfl .dR (Jl (by assumption)) ?_)))))))
  refine MF rfl rfl (by omega) (ah rfl (MF rfl rfl (by omega) (ay rfl (OL.nil (AW.rg hE rfl (fQ rfl (ah rfl ?_)))))))
  refine cv it.u64 it.u32 rfl (c:=(((A.getD i 0+4294967296-C.getD i 0-less) % 4294967296:Nat):Int)) (by rw[gW];omega) (tC sl.aC (VC.d _).vd rfl (by decide) ?_)
  refine yG sl.aC rfl rfl rfl (by simp) (VC.d _) (by simp[D.cells]) (by simp;omega) (by simp;omega) (.inr rfl) (ys:=(out++[(A.getD i 0+4294967296-C.getD i 0-less) % 4294967296]).map AB) (by simp) (n2:=(out++[(A.getD i 0+4294967296-C.getD i 0-less) % 4294967296]).length) (by simp) λb2 c2=>?_
  refine ah rfl (Lh rfl rfl rfl (MF rfl rfl (by omega) (uj rfl (ay rfl (OL.nil (AW.rg hE rfl (ah rfl ?_)))))))
  refine aB rfl rfl (by omega) (ay rfl (OL.nil ?_))
  exact AW.again (x:=(i,out,less,b,c)) (i+1,out++[(A.getD i 0+4294967296-C.getD i 0-less) % 4294967296],if A.getD i 0<C.getD i 0+less then 1 else 0,b2,c2) (by (simp only[];omega)) ⟨⟨by simp[h1],hO.append (.cons (Nat.mod_lt _ (by decide)) .nil),by rw[fA hA,fA hC,zK,h1];exact Nz h2 hx hy h3,by split <;> omega,by omega⟩,Knows.app .wL (.cons vR (.cons (aZ.int (by split <;> omega)) .bC)),.cons rfl .nil⟩
 .try simp only[bY] at h12
  refine AW.exit (AW.seq ?_);have hv:val out=val A-val C:=Qg hA hO (by omega) hle (by rw[tJ (A:=out) (by omega)];rw[show i=A.length by omega] at h2;exact h2) h3 hC
  refine AW.freeze 29 rfl (AW.to [(5,.d (aC out))] [] (.cons (dP (by simp) rfl) .nil) .nil ?_)
  exact AW.rg hE rfl (ah rfl (aY rfl .bC (Fe (by assumption) (by omega)) (ay rfl (OL.nil (AW.ret (aH.r ⟨_,.tmp rfl .nil,.le (aI (by rw[<- hv];rfl))⟩))))))
theorem ab5 {A C:List Nat}(hA:jg A)(hC:jg C)(nA:A.length<=4398046511104)(nC:C.length<=4398046511104):ai P F.yh [.d (aC A),.d (aC C)] (.d (aC (lim (val A*val C)))):=by
 refine ai.intro fn.yh (by rfl) (by rfl) (au (by rfl)) λE hE=>(AW.sg hE rfl (oq rfl (OL.nil (AW.sg hE rfl (ah rfl (eH sl.aC rfl rfl (ah rfl ?_)))))))
 refine eH sl.aC rfl rfl (bo rfl rfl (dO (c:=((A.length+C.length:Nat):Int)) (by omega) (wrap_i64 (by omega))) (Xd AB 0 sl.aC z.u32 (.cons (VC.d _) .nil) rfl rfl (Nat.le_refl _) (by omega) (by omega) rfl λb=>(uj rfl (OL.nil (AW.seq (AW.sg hE rfl (ay rfl ?_)))))))
 refine OL.nil (AW.block ?_);refine AW.aK (α:=Nat × List Nat) [(0,_),(1,_),(4,_)] [] (λ(i,out)=>[(5,.bJ 15 b (A.length+C.length) (A.length+C.length)),(6,.d (dI i))]) (λ(i,out)=>[(15,.row b (A.length+C.length) T.u32 1 (out.map AB))]) (λ(i,out)=>out.length=A.length+C.length/\jg out/\val out=val (A.take i)*val C/\i<=A.length/\∀ j,i+C.length<=j->out.getD j 0=0) (λ(i,out)=>A.length-i) (0,List.replicate (A.length+C.length) 0) (.cons (bM rfl) (.cons (bM rfl) (.cons (zi rfl) .nil))) .nil ⟨⟨by simp,jg.zeros _,by simp[jq,FZ],by omega,λj _=>Xu _ j⟩,.dR,.cons rfl .nil⟩ ?_
 rintro⟨i,Sl⟩ ⟨h1,hO0,h2,h3,h4⟩
 refine AW.seq (AW.sg hE rfl (ah rfl (ah rfl (eH sl.aC rfl rfl (aN rfl rfl rfl (OL.nil (AW.cond rfl (λh19=>?_) (λh19=>?_))))))))
 .try simp only[bY] at h19
  refine AW.skip (AW.seq (AW.block (AW.sg hE rfl (ay rfl (OL.nil (AW.seq (AW.sg hE rfl ?_)))))));refine ay rfl (OL.nil (AW.block ?_));refine AW.aK (α:=Nat × List Nat × Nat) [(0,_),(1,_),(4,_),(6,_)] [] (λ(j,out,sum)=>[(5,.bJ 15 b (A.length+C.length) (A.length+C.length)),(7,.d (dU sum)),(8,.d (dI j))]) (λ(j,out,sum)=>[(15,.row b (A.length+C.length) T.u32 1 (out.map AB))]) (λ(j,out,sum)=>out.length=A.length+C.length/\jg out/\val out+sum*Bp (i+j)=val (A.take i)*val C+A.getD i 0*Bp i*val (C.take j)/\sum<=4294967295/\j<=C.length/\∀ k,i+C.length<=k->out.getD k 0=0) (λ(j,out,sum)=>C.length-j) (0,Sl,0) (.cons (bM rfl) (.cons (bM rfl) (.cons (zi rfl) (.cons (bM rfl) .nil)))) .nil ⟨⟨h1,hO0,by simp[jq,h2],by omega,by omega,h4⟩,.wL,.cons rfl .nil⟩ ?_
  rintro⟨j,out,sum⟩ ⟨g1,hO,g2,g3,g4,g6⟩
  refine AW.seq (AW.sg hE rfl (ah rfl (ah rfl (eH sl.aC rfl rfl (aN rfl rfl rfl (OL.nil (AW.cond rfl (λh25=>?_) (λh25=>?_))))))))
  .try simp only[bY] at h25
   refine AW.skip (AW.seq (AW.block (AW.seq ?_)));have ha:=hA.getD i;have hc2:=hC.getD j;have ho:=hO.getD (i+j);have hp:A.getD i 0*C.getD j 0<=4294967295*4294967295:=Nat.mul_le_mul (by omega) (by omega)
   have st1:val (out.set (i+j) ((sum+(out.getD (i+j) 0+A.getD i 0*C.getD j 0)) % 4294967296))+(sum+(out.getD (i+j) 0+A.getD i 0*C.getD j 0)) / 4294967296*Bp (i+(j+1))=val (A.take i)*val C+A.getD i 0*Bp i*val (C.take (j+1)):=by
    rw[fA hC];exact NC (by omega) g2 rfl
   refine AW.dg 1 [0,1,2,3,4,5,6,7,8,9,10,11,12,13,14,15,16,17,18,19,20,21] aj hE rfl (by kernel_rfl) (OI.aP (os:=[_,_,_,_,_,_,_,_,_,_,_,_,_,_,_,_,_,_,_,_,_,_]) rfl ?_)
   refine ah rfl (ah rfl (bg sl.aC 0 rfl rfl (by omega) rfl rfl (bP ce.u32 rfl (cv it.u32 it.u64 rfl (wrap_u64 (by omega)) (ah rfl (ah rfl (bg sl.aC 0 rfl rfl (by omega) rfl rfl ?_)))))))
   refine bP ce.u32 rfl (cv it.u32 it.u64 rfl (wrap_u64 (by omega)) (bo rfl rfl (Dk (c:=((A.getD i 0*C.getD j 0:Nat):Int)) (by rw[Int.natCast_mul]) (wrap_u64 (by omega))) (fQ rfl (ah rfl (ah rfl (aB rfl rfl (by omega) (Uj sl.aC rfl rfl (by omega) (by omega) (i:=i+j) (by omega) ?_)))))))
   refine ES ce.u32 0 (by decide) rfl rfl (by omega) rfl (cv it.u32 it.u64 rfl (wrap_u64 (by omega)) (xB rfl rfl (by omega) (ah rfl (xB rfl rfl (by omega) (ay rfl (OL.nil (AW.rg hE rfl ?_)))))))
   refine fQ rfl (ah rfl (ah rfl (aB rfl rfl (by omega) (ah rfl (cv it.u64 it.u32 rfl (c:=(((sum+(out.getD (i+j) 0+A.getD i 0*C.getD j 0)) % 4294967296:Nat):Int)) (by rw[gW];omega) (ah rfl (Lh rfl rfl rfl ?_)))))))
   refine Uj sl.aC rfl rfl (by omega) (by omega) (i:=i+j) (by omega) (AA sz.u32 rfl (VC.d _).vd rfl rfl (by simp;omega) (es2:=(out.set (i+j) ((sum+(out.getD (i+j) 0+A.getD i 0*C.getD j 0)) % 4294967296)).map AB) (by rw[List.map_set]) (ay rfl (OL.nil (AW.rg hE rfl (ah rfl (aB rfl rfl (by omega) (ay rfl ?_)))))))
   refine OL.nil ?_;exact AW.again (x:=(j,out,sum)) (j+1,out.set (i+j) ((sum+(out.getD (i+j) 0+A.getD i 0*C.getD j 0)) % 4294967296),(sum+(out.getD (i+j) 0+A.getD i 0*C.getD j 0)) / 4294967296) (by (simp only[];omega)) ⟨⟨by simp[g1],hO.set _ (Nat.mod_lt _ (by decide)),st1,by omega,by omega,am8 g6 (by omega)⟩,Knows.app .CZ (.cons vR (.cons (aZ.int (by omega)) .bC)),.cons rfl .nil⟩
  .try simp only[bY] at h25
   refine AW.exit (AW.rg hE rfl (fQ rfl (ah rfl (ah rfl (eH sl.aC rfl rfl (aB rfl rfl (by omega) (ah rfl ?_)))))))
   refine cv it.u64 it.u32 rfl (c:=(sum:Int)) (by rw[gW];omega) (Uj sl.aC rfl rfl (by omega) (by omega) (i:=i+C.length) (by omega) (AA sz.u32 rfl (VC.d _).vd rfl rfl (by simp;omega) (es2:=(out.set (i+C.length) sum).map AB) (by rw[List.map_set]) (OL.nil (AW.rg hE rfl (ah rfl (aB rfl rfl (by omega) (ay rfl ?_)))))))
   refine OL.nil ?_;exact AW.again (x:=(i,Sl)) (i+1,out.set (i+C.length) sum) (by (simp only[];omega)) ⟨⟨by simp[g1],hO.set _ (by omega),aC4 hA (by omega) (g6 _ (Nat.le_refl _)) (by rw[show j=C.length by omega] at g2;exact g2),by omega,λk hk=>by rw[Go.AL.getD_set_ne (by omega)];exact g6 k (by omega)⟩,Knows.app .wL .dR,.cons rfl .nil⟩
 .try simp only[bY] at h19
  refine AW.exit (AW.seq ?_);have hv:val Sl=val A*val C:=by rw[h2,tJ (by omega)]
  refine AW.freeze 15 rfl (AW.to [(5,.d (aC Sl))] [] (.cons (dP (by simp[h1]) rfl) .nil) .nil ?_)
  exact AW.rg hE rfl (ah rfl (aY rfl .bC (Fe (by assumption) (by omega)) (ay rfl (OL.nil (AW.ret (aH.r ⟨_,.tmp rfl .nil,.le (aI (by rw[<- hv];rfl))⟩))))))
theorem J6 {a b:Nat}(na:(lim a).length<=4398046511104)(nb:(lim b).length<=4398046511104):ai P F.Aa [.d (aC (lim a)),.d (aC (lim b))] (.d (aC (lim (a+b)))):=by
 have h:=ao1 (bG a) (bG b) na nb;rw[bF,bF] at h;exact h
theorem Ik {a b:Nat}(na:(lim a).length<=8796093022208)(hle:b<=a):ai P F.yj [.d (aC (lim a)),.d (aC (lim b))] (.d (aC (lim (a-b)))):=by
 have h:=ab4 (bG a) (bG b) na (by rw[bF,bF];exact hle)
 rw[bF,bF] at h;exact h
theorem Ah {a b:Nat}(na:(lim a).length<=4398046511104)(nb:(lim b).length<=4398046511104):ai P F.yh [.d (aC (lim a)),.d (aC (lim b))] (.d (aC (lim (a*b)))):=by
 have h:=ab5 (bG a) (bG b) na nb;rw[bF,bF] at h;exact h
theorem Int.L9 (m:Nat):((2 ^ m:Nat):Int)=2 ^ m:=by rw[Int.natCast_pow];rfl
theorem U0 (m:Nat):2 ^ (m % 32)<4294967296:=Nat.pow_lt_pow_right (m:=m % 32) (n:=32) (by decide) (Nat.mod_lt _ (by decide))
theorem aD5 (m:Nat):((2 ^ (m % 32):Nat):Int)<=4294967295:=by have:=U0 m;omega
theorem Il {a b:Nat}(hb:b≠0)(na:(lim a).length<=1099511627776)(nb:(lim b).length<=1099511627776):ai P F.yT [.d (aC (lim a)),.d (aC (lim b))] (.jM [.d (aC (lim (a / b))),.d (aC (lim (a % b)))]):=by
 refine ai.intro fn.yT (by rfl) (by rfl) (au (by rfl)) λE hE=>(AW.sg hE rfl (oq rfl (oq rfl (OL.nil (AW.sg hE rfl (ah rfl (eH sl.aC rfl rfl ?_)))))))
 refine Xd AB 0 sl.aC z.u32 (.cons (VC.d _) .nil) rfl rfl (Nat.le_refl _) (by omega) (by omega) rfl λb11=>(uj rfl (OL.nil (AW.sg hE rfl (oq rfl (OL.nil (AW.seq (AW.sg hE rfl ?_)))))))
 refine ah rfl (eH sl.aC rfl rfl (Ry rfl rfl (by omega) (fC rfl rfl (by omega) (ay rfl (OL.nil (AW.block ?_))))))
 refine AW.aK (α:=Nat × List Nat × Nat × Nat) [(0,_),(1,_),(4,_),(5,_)] [] (λ(n,q,r,Q)=>[(6,.bJ 11 b11 (lim a).length (lim a).length),(7,.d (aC (lim r))),(8,.d (dI ((n:Int)-1)))]) (λ(n,q,r,Q)=>[(11,.row b11 (lim a).length T.u32 1 (q.map AB))]) (λ(n,q,r,Q)=>q.length=(lim a).length/\jg q/\val q=Q*2 ^ n/\a / 2 ^ n=Q*b+r/\r<b/\n<=32*(lim a).length) (λ(n,q,r,Q)=>n) (32*(lim a).length,List.replicate (lim a).length 0,0,0) (.cons (bM rfl) (.cons (bM rfl) (.cons (zi rfl) (.cons (zi rfl) .nil)))) .nil ⟨⟨by simp,jg.zeros _,by rw[FZ,Nat.zero_mul],by rw[aa6,Nat.zero_mul],by omega,Nat.le_refl _⟩,.cons vR (.cons (by rw[dY];exact aZ.mt) .bC),.cons rfl .nil⟩ ?_
 rintro⟨n,q,r,Q⟩ ⟨h1,hq,h2,h3,h4,h5⟩
 refine AW.seq (AW.sg hE rfl (ah rfl (lG rfl rfl rfl (OL.nil (AW.cond rfl (λh=>?_) (λh=>?_))))))
 .have h:=jC h;obtain⟨m,rfl⟩:∃ m,n=m+1:=⟨n-1,by omega⟩
  have hmi:((m+1:Nat):Int)-1=(m:Int):=by omega
  have hrl:=sW (Nat.le_of_lt h4);have ht:a / 2 ^ m % 2<2:=Nat.mod_lt _ (by decide)
  have hds:=am9 (i:=m) (Nat.pos_of_ne_zero hb) h3 h4;have hr2:=sW (show r+r+a / 2 ^ m % 2<=b+b by omega)
  have hr3:=sW (show r+r<=b+b by omega)
  have hbb:=YK b b;refine AW.skip (AW.seq (AW.block (AW.sg hE rfl (ah rfl (ah rfl (aY rfl .dR (J6 (by omega) (by omega)) (ay rfl ?_)))))))
  refine OL.nil ?_;refine AW.AP (α:=Unit) [(0,_),(1,_),(4,_),(5,_),(6,_),(8,_)] [(11,_)] (λ_u=>[(7,.d (aC (lim (r+r+a / 2 ^ m % 2))))]) (λ_u=>[]) (λ_u=>True) (.cons (bM rfl) (.cons (bM rfl) (.cons (zi rfl) (.cons (zi rfl) (.cons (uH rfl) (.cons (bM rfl) .nil)))))) (.cons (rH rfl) .nil) ?_ ?_
  .refine AW.sg hE rfl (ah rfl (ah rfl (bo rfl rfl (aZ2 m 32 hmi (by omega) (by decide)) (bg sl.aC 0 rfl rfl (by omega) rfl rfl (bP ce.u32 rfl (ah rfl (bo rfl rfl (aZ3 m 32 hmi (by decide)) ?_)))))))
   refine cv it.int it.uint rfl (wrap_u64 (by omega)) (RD rfl rfl ⟨Int.natCast_nonneg _,by rw[Int.toNat_natCast];have:m % 32<32:=Nat.mod_lt _ (by decide);exact Nat.le_of_lt this⟩ (by rw[Int.toNat_natCast,IX]) (bo rfl rfl (am4 (Nat.lt_of_le_of_lt (Nat.div_le_self ..) ((bG a).getD _))) ?_))
   rw[aP0 (bG a),bF];refine dm rfl rfl rfl (OL.nil (AW.cond rfl (λh33=>?_) (λh33=>?_)))
   .try simp only[bY] at h33
    refine AW.rg hE rfl (ah rfl (tC sl.aC (VC.d _).vd rfl (by decide) (cl (J6 (b:=1) (by omega) (by have:=rO (g:=1) (by decide);omega)) rfl (.cons vR (.cons (aI (by rw[wV (n:=1) (by decide) (by decide)];rfl)) .nil)) (ay rfl (OL.nil ?_)))))
    exact AW.reach () ⟨trivial,Knows.app .Lj (.cons (aI (by rw[show a / 2 ^ m % 2=1 by omega];rfl)) .nil),bn.app (.cons rfl .nil) (.nil)⟩
   .try simp only[bY] at h33
    refine AW.skip ?_;exact AW.reach () ⟨trivial,Knows.app .Lj (.cons (aI (by rw[show a / 2 ^ m % 2=0 by omega];rfl)) .nil),bn.app (.cons rfl .nil) (.nil)⟩
  rintro⟨⟩ hφ
  refine AW.sg hE rfl (ah rfl (ah rfl (cl (LH (by omega) (by omega)) rfl vL (lG rfl rfl rfl (OL.nil (AW.cond rfl (λh40=>?_) (λh40=>?_)))))))
  .have h40:b<=r+r+a / 2 ^ m % 2:=I4 (by have:=jC h40;omega)
   have hsb:=aC5 (i:=m) (by omega) hq h2
   refine AW.sg hE rfl (ah rfl (ah rfl (aY rfl .dR (Ik (by omega) (by assumption)) (ay rfl (OL.nil (AW.rg hE rfl (fQ rfl ?_)))))))
   refine ah rfl (bo rfl rfl (aZ2 m 32 hmi (by omega) (by decide)) (dV sl.aC rfl rfl (by omega) (ES ce.u32 0 (by decide) rfl rfl (by omega) rfl (ah rfl (bo rfl rfl (aZ3 m 32 hmi (by decide)) (cv it.int it.uint rfl (wrap_u64 (by omega)) ?_))))))
   refine aY6 rfl rfl ⟨Int.natCast_nonneg _,by rw[Int.toNat_natCast];have:m % 32<32:=Nat.mod_lt _ (by decide);exact Nat.le_of_lt this⟩ (c:=((2 ^ (m % 32):Nat):Int)) (by rw[Int.toNat_natCast,Int.one_mul,<- Int.L9,wrap_u32 ⟨Int.natCast_nonneg _,aD5 m⟩]) ?_
   refine bo rfl rfl (aO7 (hq.getD _) (U0 m)) (dV sl.aC rfl rfl (by omega) (AA sz.u32 rfl (VC.d _).vd rfl rfl (by simp;omega) (es2:=(q.set (m / 32) (q.getD (m / 32) 0 ||| 2 ^ (m % 32))).map AB) (by rw[List.map_set]) (OL.nil (AW.rg hE rfl (ah rfl (fC rfl rfl (by omega) (ay rfl ?_)))))))
   refine OL.nil ?_;exact AW.again (x:=(m+1,q,r,Q)) (m,q.set (m / 32) (q.getD (m / 32) 0 ||| 2 ^ (m % 32)),r+r+a / 2 ^ m % 2-b,2*Q+1) (by (simp only[];omega)) ⟨⟨by simp[h1],hsb.2,hsb.1,(hds.2 h40).1,(hds.2 h40).2,by omega⟩,Knows.app .CZ (.cons vR (.cons vR (.cons (aZ.int (by omega)) .nil))),.cons rfl .nil⟩
  .have h40:r+r+a / 2 ^ m % 2<b:=by have:=kK h40;rcases Nat.lt_or_ge (r+r+a / 2 ^ m % 2) b with h|h;exact h;exact absurd (Xl h) this
   refine AW.skip (AW.rg hE rfl (ah rfl (fC rfl rfl (by omega) (ay rfl (OL.nil ?_)))))
   exact AW.again (x:=(m+1,q,r,Q)) (m,q,r+r+a / 2 ^ m % 2,2*Q) (by (simp only[];omega)) ⟨⟨h1,hq,by rw[h2,Nat.pow_succ,Nat.mul_comm 2 Q,Nat.mul_assoc,Nat.mul_comm 2],hds.1 h40,h40,by omega⟩,Knows.app .CZ (.cons vR (.cons vR (.cons (aZ.int (by omega)) .nil))),.cons rfl .nil⟩
 .have h:=kK h;refine AW.exit (AW.seq ?_);obtain rfl:n=0:=by omega
  obtain⟨e1,e2⟩:=aC6 h3 h4;subst e1;subst e2;have hv:val q=a / b:=by rw[h2,Nat.pow_zero,Nat.mul_one]
  refine AW.freeze 11 rfl (AW.to [(6,.d (aC q)),(7,.d (aC (lim (a % b))))] [] (.cons (dP (by simp[h1]) rfl) .bC) .nil ?_)
  refine AW.rg hE rfl (ah rfl (cl (Fe hq (by omega)) rfl vL ?_))
  rw[hv];exact ah rfl (ay rfl (ay rfl (OL.nil (AW.ret (aH.r ⟨_,.tmp rfl (.tmp rfl .nil),_,.cons (.le vR) (.cons (.le vR) .nil),rfl⟩)))))
theorem LJ {a b:Nat}(na:(lim a).length<=1099511627776)(nb:(lim b).length<=1099511627776):ai P F.xM [.d (aC (lim a)),.d (aC (lim b))] (.d (aC (lim (Nat.gcd a b)))):=by
 refine ai.intro fn.xM (by rfl) (by rfl) (au (by rfl)) λE hE=>(AW.sg hE rfl (oq rfl (OL.nil (AW.seq (AW.block ?_)))))
 refine AW.aK (α:=Nat × Nat) [(4,_)] [] (λ(x,y)=>[(0,.d (aC (lim x))),(1,.d (aC (lim y)))]) (λ(x,y)=>[]) (λ(x,y)=>Nat.gcd x y=Nat.gcd a b/\(lim x).length<=1099511627776/\(lim y).length<=1099511627776) (λ(x,y)=>y) (a,b) (.cons (zi rfl) .nil) .nil ⟨⟨rfl,na,nb⟩,.dR,.nil⟩ ?_
 rintro⟨x,y⟩ ⟨h1,h2,h3⟩
 refine AW.seq (AW.sg hE rfl (ah rfl (eH sl.aC rfl rfl (iI rfl rfl rfl (OL.nil (AW.cond rfl (λh=>?_) (λh=>?_)))))))
 .have hy:y≠0:=λe=>by have:=jC h;rw[e,dY] at this;exact absurd this (by decide)
  have hml:(lim (x % y)).length<=1099511627776:=Nat.le_trans (sW (Nat.mod_le x y)) h2;refine AW.skip (AW.block (AW.sg hE rfl (ah rfl (ah rfl (aY rfl .dR (Il (by assumption) (by assumption) (by assumption)) (BN rfl (ex rfl rfl ?_)))))))
  refine ex rfl rfl (ay rfl (ay rfl (OL.nil (AW.rg hE rfl (ah rfl (ah rfl (ay rfl ?_)))))));exact ay rfl (OL.nil (AW.again (x:=(x,y)) (y,x % y) (by exact Nat.mod_lt _ (Nat.pos_of_ne_zero hy)) ⟨⟨by rw[<- h1,Nat.gcd_comm y,<- Nat.gcd_rec,Nat.gcd_comm],h3,hml⟩,Knows.app .bC .dR,.nil⟩))
 .have hy:y=0:=by have:=kK h;exact dJ.1 (by omega)
  exact AW.exit (AW.sg hE rfl (ah rfl (ay rfl (OL.nil (AW.ret (aH.r ⟨_,.tmp rfl .nil,.le (aI (by rw[<- h1,hy,Nat.gcd_zero_right];rfl))⟩))))))
theorem Ff {L:List Nat}(hL:jg L):ai P F.Cc [.d (aC L)] (.d (dB (decide (L=[1])))):=by
 refine ai.intro fn.Cc (by rfl) (by rfl) (au (by rfl)) λE hE=>(AW.sg hE rfl (ay rfl (OL.nil (AW.sg hE rfl (ah rfl (eH sl.aC rfl rfl (dm rfl rfl rfl ?_)))))))
 refine ah rfl (OL.split 6 rfl (λg6=>?_) (λg6=>?_))
 .try simp only[bY] at g6
  refine OL.yes rfl (ah rfl (OL.yes rfl (PI 0 sl.aC 0 rfl rfl rfl (by omega) rfl rfl (OL.yes rfl (bP ce.u32 rfl (OL.yes rfl (dm rfl rfl rfl ?_)))))))
  exact iV rfl rfl (ay rfl (OL.nil (AW.ret (aH.r ⟨_,.tmp rfl .nil,.le (aZ.bool (by have e:=YN hL;exact decide_eq_decide.2 ⟨λh=>e.2 ⟨by omega,by omega⟩,λh=>by have:=(e.1 h).2;omega⟩))⟩))))
 .try simp only[bY] at g6
  exact OL.nd rfl (OL.nd rfl (OL.nd rfl (OL.nd rfl (eG rfl rfl (ay rfl (OL.nil (AW.ret (aH.r ⟨_,.tmp rfl .nil,.le (aZ.bool (by have e:=YN hL;exact (decide_eq_false λh=>by have:=(e.1 h).1;omega).symm))⟩))))))))
theorem YX {n:Nat}:ai P F.Cc [.d (aC (lim n))] (.d (dB (decide (n=1)))):=by
 have h:=Ff (bG n);rw[show decide (lim n=[1])=decide (n=1) from decide_eq_decide.2 Ie] at h;exact h

/-
  Walks of the reference's numbers, part 2: division (printed by mk2.py).
-/
import Derived.Test.YtanlenlmihoiiaaGreatDoorKRatB
set_option linter.unusedVariables false
set_option linter.unusedSimpArgs false
namespace Go.Proofs.YtanlenlmihoiiaaGreatDoor
open Go Go.AL
theorem Fg {L:List Nat}(hL:jy L)(hn:L.length<=8796093022208):ai P F.Ef [.d (aI L)] (.d (aI (lim (val L)))):=by
 refine ai.intro fn.Ef (by rfl) (by rfl) (au (by rfl)) λE hE=>(AW.sg hE rfl (nI rfl (OL.nil (AW.seq (AW.block (AW.aX (α:=List Nat) [(2,_)] [] (λA=>[(0,.d (aI A))]) (λA=>[]) (λA=>jy A/\val A=val L/\A.length<=L.length) (λA=>A.length) L (.cons (BO rfl) .nil) .nil ⟨⟨hL,rfl,Nat.le_refl _⟩,.dw,.nil⟩ ?_))))))
 rintro A ⟨hA,hv,hl⟩
 refine AW.seq (AW.sg hE rfl (aj rfl (fO sl.aI rfl rfl (kS rfl rfl rfl (aj rfl (OL.split 6 rfl (λg6=>?_) (λg6=>?_)))))))
 .try simp only[fG] at g6
  refine OL.yes rfl (aj rfl (OL.yes rfl (aj rfl (OL.yes rfl (fO sl.aI rfl rfl (OL.yes rfl (iW rfl rfl (by omega) ?_)))))))
  refine OL.yes rfl (ixL sl.aI 0 rfl rfl (by omega) (by omega) rfl rfl (OL.yes rfl (jb ce.u32 rfl (OL.yes rfl (fE rfl rfl rfl (nJ rfl rfl (OL.nil ?_)))))))
  refine AW.cond rfl (λDp=>?_) (λDp=>?_)
  .try simp only[fG] at Dp
   refine AW.skip (AW.block (AW.rg hE rfl (aj rfl (aj rfl (fO sl.aI rfl rfl (iW rfl rfl (by omega) (aL4 sl.aI rfl rfl (λ_=>rfl) (by omega) (l2:=A.dropLast) (by rw[List.dropLast_eq_take];congr 1;omega) ?_)))))))
   refine aG rfl (OL.nil ?_);exact AW.again (x:=A) A.dropLast (by rw[List.length_dropLast];omega) ⟨⟨hA.dropLast,by rw[<- hv,I9 (by omega) (by rw[zO] at Dp;omega)],by rw[List.length_dropLast];omega⟩,Knows.app .dw .dw,.nil⟩
  .try simp only[fG] at Dp
   exact AW.exit (AW.sg hE rfl (aj rfl (aG rfl (OL.nil (AW.ret (aT.r ⟨_,.tmp rfl .nil,.le (aC (by rw[<- hv,Tn hA (Zo (by omega) (by rw[zO] at Dp;omega))];rfl))⟩))))))
 .try simp only[fG] at g6
  refine OL.nd rfl (OL.nd rfl (OL.nd rfl (OL.nd rfl (OL.nd rfl (OL.nd rfl (OL.nd rfl (oI rfl rfl ?_)))))));refine OL.nil (pW rfl ?_);exact AW.exit (AW.sg hE rfl (aj rfl (aG rfl (OL.nil (AW.ret (aT.r ⟨_,.tmp rfl .nil,.le (aC (by rw[<- hv,ar1 (L:=A) (by omega),jB,eX];rfl))⟩))))))
theorem LK {v:Nat}(hv:v<18446744073709551616):ai P F.xR [.d (dU v)] (.d (aI (lim v))):=by
 refine ai.intro fn.xR (by rfl) (by rfl) (au (by rfl)) λE hE=>(AW.sg hE rfl (nI rfl (OL.nil (AW.sg hE rfl (aj rfl (cv it.u64 it.u32 rfl (c:=((v % 4294967296:Nat):Int)) (by rw[iC];omega) (aj rfl ?_)))))))
 refine Lr rfl rfl rfl (cv it.u64 it.u32 rfl (c:=((v / 4294967296:Nat):Int)) (by rw[iC];omega) (lt2 sl.aI (VC.d _).vd (VC.d _).vd ⟨rfl,rfl⟩ (by decide) (cl (Fg (L:=[v % 4294967296,v / 4294967296]) (.cons (by omega) (.cons (by omega) .nil)) (by simp)) rfl vL ?_)))
 rw[show val [v % 4294967296,v / 4294967296]=v by simp only[jC,jB];omega]
 exact aG rfl (OL.nil (AW.ret (aT.r ⟨_,.tmp rfl .nil,.le vR⟩)))
theorem Vo {v:Int}:ai P F.Eh [.d (dI v)] (.d (dI (U9 v))):=by
 refine ai.intro fn.Eh (by rfl) (by rfl) (au (by rfl)) λE hE=>(AW.sg hE rfl (aG rfl (OL.nil (AW.seq (AW.block (AW.sg hE rfl (aj rfl ?_)))))))
 refine bD rfl rfl rfl (aG rfl (OL.nil (AW.cond rfl (λh3=>?_) (λh3=>?_))))
 .try simp only[fG] at h3
  exact AW.sg hE rfl (aG rfl (OL.nil (AW.ret (aT.r ⟨_,.tmp rfl .nil,.le (bV.int (by unfold U9;rw[if_pos h3]))⟩))))
 .try simp only[fG] at h3
  refine AW.sg hE rfl (aj rfl (kS rfl rfl rfl (aG rfl (OL.nil (AW.cond rfl (λh6=>?_) (λh6=>?_))))))
  .try simp only[fG] at h6
   exact AW.sg hE rfl (aG rfl (OL.nil (AW.ret (aT.r ⟨_,.tmp rfl .nil,.le (bV.int (by unfold U9;rw[if_neg h3,if_pos h6]))⟩))))
  .try simp only[fG] at h6
   exact AW.skip (AW.sg hE rfl (aG rfl (OL.nil (AW.ret (aT.r ⟨_,.tmp rfl .nil,.le (bV.int (by unfold U9;rw[if_neg h3,if_neg h6]))⟩)))))
theorem LM {a b:Nat}(na:(lim a).length<=8796093022208)(nb:(lim b).length<=8796093022208):ai P F.xW [.d (aI (lim a)),.d (aI (lim b))] (.d (dI (EM a b))):=by
 refine ai.intro fn.xW (by rfl) (by rfl) (au (by rfl)) λE hE=>(AW.sg hE rfl (aG rfl (OL.nil (AW.seq (AW.sg hE rfl (aj rfl (fO sl.aI rfl rfl ?_)))))))
 refine aj rfl (fO sl.aI rfl rfl (fJ rfl rfl rfl (OL.nil (AW.cond rfl (λh10=>?_) (λh10=>?_)))))
 .try simp only[fG] at h10
  refine AW.sg hE rfl (aj rfl (fO sl.aI rfl rfl (aj rfl (fO sl.aI rfl rfl (iW rfl rfl (by omega) (bP rfl .dw (Vo) (aG rfl ?_)))))))
  exact OL.nil (AW.ret (aT.r ⟨_,.tmp rfl .nil,.le (aC (by rw[aM2 (by omega)];rfl))⟩))
 .try simp only[fG] at h10
  refine AW.skip (AW.seq (AW.sg hE rfl (aj rfl (fO sl.aI rfl rfl (iW rfl rfl (by omega) (aG rfl (OL.nil ?_)))))))
  refine AW.block ?_;refine AW.aX (α:=Nat) [(0,_),(1,_)] [] (λn=>[(5,.d (dI ((n:Int)-1)))]) (λn=>[]) (λn=>n<=(lim a).length/\∀ j,n<=j->(lim a).getD j 0=(lim b).getD j 0) (λn=>n) (lim a).length (.cons (dA rfl) (.cons (dA rfl) .nil)) .nil ⟨⟨Nat.le_refl _,λj hj=>by rw[zN (by omega),zN (by omega)]⟩,.dw,.nil⟩ ?_
  rintro n ⟨hn,hh⟩
  refine AW.seq (AW.sg hE rfl (aj rfl (tH rfl rfl rfl (OL.nil (AW.cond rfl (λh=>?_) (λh=>?_))))))
  .have h:=mX h;have e1:((n:Int)-1).toNat=n-1:=by omega
   have hx:=(bI a).getD (n-1);have hy:=(bI b).getD (n-1);refine AW.skip (AW.seq (AW.block (AW.seq (AW.dg 1 [0,1,2,3,4,5,6,7,8] ak hE rfl (by kernel_rfl) (OI.aP (os:=[_,_,_,_,_,_,_,_,_]) rfl ?_)))))
   refine aj rfl (aj rfl (Qa (n-1) sl.aI 0 rfl rfl (by omega) (by omega) rfl rfl (jb ce.u32 rfl (aj rfl (aj rfl (Qa (n-1) sl.aI 0 rfl rfl (by omega) (by omega) rfl rfl (jb ce.u32 rfl ?_)))))))
   refine fJ rfl rfl rfl (OL.nil (AW.cond rfl (λhne=>?_) (λhne=>?_)))
   .have hne:(lim a).getD (n-1) 0≠(lim b).getD (n-1) 0:=by have:=zH hne;omega
    refine AW.seq (AW.dg 1 [0,1,2,3,4,5,6,7,8,9,10,11,12] ak hE rfl (by kernel_rfl) (OI.aP (os:=[_,_,_,_,_,_,_,_,_,_,_,_,_]) rfl ?_))
    refine aj rfl (aj rfl (Qa (n-1) sl.aI 0 rfl rfl (by omega) (by omega) rfl rfl (jb ce.u32 rfl (cv it.u32 it.int rfl (wrap_i64 (by omega)) (aj rfl (aj rfl (Qa (n-1) sl.aI 0 rfl rfl (by omega) (by omega) rfl rfl ?_)))))))
    exact jb ce.u32 rfl (cv it.u32 it.int rfl (wrap_i64 (by omega)) (iW rfl rfl (by omega) (bP rfl .dw (Vo) (aG rfl (OL.nil (AW.ret (aT.r ⟨_,.tmp rfl .nil,.le (bV.int (by rw[aM3 (ar2 (bI a) (bI b) (i:=n-1) (λj hj=>hh j (by omega)) hne) hne,bJ,bJ]))⟩)))))))
   .have hne:(lim a).getD (n-1) 0=(lim b).getD (n-1) 0:=by have:=yc hne;omega
    refine AW.skip (AW.rg hE rfl (aj rfl (iW rfl rfl (by omega) (aG rfl (OL.nil ?_)))))
    exact AW.again (x:=n) (n-1) (by omega) ⟨⟨by omega,λj hj=>by rcases Nat.lt_or_ge j n with hj2|hj2;(have:j=n-1:=by omega);rw[this];omega;exact hh j hj2⟩,Knows.app .jm (.cons (bV.int (by omega)) .nil),.nil⟩
  .have h:=oN h;exact AW.exit (AW.sg hE rfl (aG rfl (OL.nil (AW.ret (aT.r ⟨_,.tmp rfl .nil,.le (bV.int (by have h:=Qz (bI a) (bI b) λj=>hh j (by omega);rw[bJ,bJ] at h;subst h;simp[EM]))⟩)))))
theorem Jk {L:List Nat}{i:Nat}(hL:jy L):ai P F.Eg [.d (aI L),.d (dI i)] (.d (dU (L.getD i 0))):=by
 refine ai.intro fn.Eg (by rfl) (by rfl) (au (by rfl)) λE hE=>(AW.sg hE rfl (aG rfl (OL.nil (AW.seq (AW.sg hE rfl (aj rfl (aj rfl ?_)))))))
 refine fO sl.aI rfl rfl (tH rfl rfl rfl (OL.nil (AW.cond rfl (λh8=>?_) (λh8=>?_))))
 .try simp only[fG] at h8
  exact AW.sg hE rfl (aG rfl (OL.nil (AW.ret (aT.r ⟨_,.tmp rfl .nil,.le (bV.int (by rw[zN (by omega)];rfl))⟩))))
 .try simp only[fG] at h8
  refine AW.skip (AW.sg hE rfl (aj rfl (aj rfl (fD sl.aI 0 rfl rfl (by omega) rfl rfl (jb ce.u32 rfl (cv it.u32 it.u64 rfl (wrap_u64 ⟨by omega,by have:=hL.getD i;omega⟩) (aG rfl ?_)))))))
  exact OL.nil (AW.ret (aT.r ⟨_,.tmp rfl .nil,.le vR⟩))
theorem av7 {A C:List Nat}(hA:jy A)(hC:jy C)(nA:A.length<=4398046511104)(nC:C.length<=4398046511104):ai P F.zY [.d (aI A),.d (aI C)] (.d (aI (lim (val A+val C)))):=by
 refine ai.intro fn.zY (by rfl) (by rfl) (au (by rfl)) λE hE=>(AW.sg hE rfl (nI rfl (OL.nil (AW.sg hE rfl (nI rfl (OL.nil (AW.sg hE rfl ?_)))))))
 refine aG rfl (OL.nil (AW.seq (AW.sg hE rfl (aG rfl (OL.nil (AW.own 5 31 T.u32 1 rfl rfl (AW.block ?_)))))));refine AW.aX (α:=Nat × List Nat × Nat × Nat × Nat) [(0,_),(1,_),(4,_)] [] (λ(i,out,sum,b,c)=>[(5,.bK 31 b out.length c),(6,.d (dU sum)),(7,.d (dI i))]) (λ(i,out,sum,b,c)=>[(31,.row b c T.u32 1 (out.map Ak))]) (λ(i,out,sum,b,c)=>out.length=i/\jy out/\val out+Bp i*sum=val (A.take i)+val (C.take i)/\sum<=1/\i<=max A.length C.length+1) (λ(i,out,sum,b,c)=>max A.length C.length+1-i) (0,[],0,0,0) (.cons (dA rfl) (.cons (dA rfl) (.cons (BO rfl) .nil))) .nil ⟨⟨rfl,jy.nil,rfl,by omega,by omega⟩,.yI,.cons rfl .nil⟩ ?_
 rintro⟨i,out,sum,b,c⟩ ⟨h1,hO,h2,h3,h4⟩
 refine AW.seq (AW.sg hE rfl (aj rfl (aj rfl (fO sl.aI rfl rfl (aj rfl (fO sl.aI rfl rfl (mx rfl rfl (c:=((max A.length C.length:Nat):Int)) (by omega) ?_)))))))
 refine Aw rfl rfl rfl (OL.nil (AW.cond rfl (λh15=>?_) (λh15=>?_)))
 .try simp only[fG] at h15
  refine AW.skip (AW.seq (AW.block (AW.seq ?_)));have hx:=hA.getD i;have hy:=hC.getD i;refine AW.rg hE rfl (aj rfl (aj rfl (bP rfl .jm (Jk (by assumption)) (aj rfl (aj rfl (bP rfl .jm (Jk (by assumption)) (xF rfl rfl (by omega) ?_)))))))
  refine aj rfl (xF rfl rfl (by omega) (aG rfl (OL.nil (AW.rg hE rfl (jl rfl (aj rfl (cv it.u64 it.u32 rfl (c:=(((sum+(A.getD i 0+C.getD i 0)) % 4294967296:Nat):Int)) (by rw[iC];omega) ?_)))))))
  refine xG sl.aI (VC.d _).vd rfl (by decide) ?_
  refine Am sl.aI rfl rfl rfl (by simp) (VC.d _) (by simp[D.cells]) (by simp;omega) (by simp;omega) (.inr rfl) (ys:=(out++[(sum+(A.getD i 0+C.getD i 0)) % 4294967296]).map Ak) (by simp) (n2:=(out++[(sum+(A.getD i 0+C.getD i 0)) % 4294967296]).length) (by simp) λb2 c2=>?_
  refine aj rfl (Lr rfl rfl rfl (uf rfl (aG rfl (OL.nil (AW.rg hE rfl (aj rfl (aJ rfl rfl (by omega) ?_)))))))
  refine aG rfl (OL.nil ?_);exact AW.again (x:=(i,out,sum,b,c)) (i+1,out++[(sum+(A.getD i 0+C.getD i 0)) % 4294967296],(sum+(A.getD i 0+C.getD i 0)) / 4294967296,b2,c2) (by (simp only[];omega)) ⟨⟨by simp[h1],hO.append (.cons (Nat.mod_lt _ (by decide)) .nil),by rw[zJ,h1,fU hA,fU hC];exact QA h2,by omega,by omega⟩,Knows.app .yI (.cons vR (.cons (bV.int (by omega)) .dw)),.cons rfl .nil⟩
 .try simp only[fG] at h15
  refine AW.exit (AW.seq ?_);have hv:val out=val A+val C:=at6 hA hC (by omega) h1 h2
  refine AW.freeze 31 rfl (AW.to [(5,.d (aI out))] [] (.cons (dM (by simp) rfl) .nil) .nil ?_)
  exact AW.rg hE rfl (aj rfl (bP rfl .dw (Fg (by assumption) (by omega)) (aG rfl (OL.nil (AW.ret (aT.r ⟨_,.tmp rfl .nil,.le (aC (by rw[<- hv];rfl))⟩))))))
theorem ag7 {A C:List Nat}(hA:jy A)(hC:jy C)(nA:A.length<=8796093022208)(hle:val C<=val A):ai P F.yw [.d (aI A),.d (aI C)] (.d (aI (lim (val A-val C)))):=by
 refine ai.intro fn.yw (by rfl) (by rfl) (au (by rfl)) λE hE=>(AW.sg hE rfl (nI rfl (OL.nil (AW.sg hE rfl (nI rfl (OL.nil (AW.sg hE rfl ?_)))))))
 refine aG rfl (OL.nil (AW.seq (AW.sg hE rfl (aG rfl (OL.nil (AW.own 5 29 T.u32 1 rfl rfl (AW.block ?_)))))));refine AW.aX (α:=Nat × List Nat × Nat × Nat × Nat) [(0,_),(1,_),(4,_)] [] (λ(i,out,less,b,c)=>[(5,.bK 29 b out.length c),(6,.d (dU less)),(7,.d (dI i))]) (λ(i,out,less,b,c)=>[(29,.row b c T.u32 1 (out.map Ak))]) (λ(i,out,less,b,c)=>out.length=i/\jy out/\val (A.take i)+less*Bp i=val out+val (C.take i)/\less<=1/\i<=A.length) (λ(i,out,less,b,c)=>A.length-i) (0,[],0,0,0) (.cons (dA rfl) (.cons (dA rfl) (.cons (BO rfl) .nil))) .nil ⟨⟨rfl,jy.nil,by simp[jB],by omega,by omega⟩,.yI,.cons rfl .nil⟩ ?_
 rintro⟨i,out,less,b,c⟩ ⟨h1,hO,h2,h3,h4⟩
 refine AW.seq (AW.sg hE rfl (aj rfl (aj rfl (fO sl.aI rfl rfl (bD rfl rfl rfl (OL.nil (AW.cond rfl (λh12=>?_) (λh12=>?_))))))))
 .try simp only[fG] at h12
  refine AW.skip (AW.seq (AW.block (AW.seq ?_)));have hx:=hA.getD i;have hy:=hC.getD i;refine AW.rg hE rfl (aj rfl (aj rfl (bP rfl .jm (Jk (by assumption)) (xF rfl rfl (by omega) (aj rfl (aj rfl (bP rfl .jm (Jk (by assumption)) ?_)))))))
  refine MP rfl rfl (by omega) (aj rfl (MP rfl rfl (by omega) (aG rfl (OL.nil (AW.rg hE rfl (jl rfl (aj rfl ?_)))))))
  refine cv it.u64 it.u32 rfl (c:=(((A.getD i 0+4294967296-C.getD i 0-less) % 4294967296:Nat):Int)) (by rw[iC];omega) (xG sl.aI (VC.d _).vd rfl (by decide) ?_)
  refine Am sl.aI rfl rfl rfl (by simp) (VC.d _) (by simp[D.cells]) (by simp;omega) (by simp;omega) (.inr rfl) (ys:=(out++[(A.getD i 0+4294967296-C.getD i 0-less) % 4294967296]).map Ak) (by simp) (n2:=(out++[(A.getD i 0+4294967296-C.getD i 0-less) % 4294967296]).length) (by simp) λb2 c2=>?_
  refine aj rfl (Lr rfl rfl rfl (MP rfl rfl (by omega) (uf rfl (aG rfl (OL.nil (AW.rg hE rfl (aj rfl ?_)))))))
  refine aJ rfl rfl (by omega) (aG rfl (OL.nil ?_))
  exact AW.again (x:=(i,out,less,b,c)) (i+1,out++[(A.getD i 0+4294967296-C.getD i 0-less) % 4294967296],if A.getD i 0<C.getD i 0+less then 1 else 0,b2,c2) (by (simp only[];omega)) ⟨⟨by simp[h1],hO.append (.cons (Nat.mod_lt _ (by decide)) .nil),by rw[fU hA,fU hC,zJ,h1];exact NV h2 hx hy h3,by split <;> omega,by omega⟩,Knows.app .yI (.cons vR (.cons (bV.int (by split <;> omega)) .dw)),.cons rfl .nil⟩
 .try simp only[fG] at h12
  refine AW.exit (AW.seq ?_);have hv:val out=val A-val C:=QB hA hO (by omega) hle (by rw[um (A:=out) (by omega)];rw[show i=A.length by omega] at h2;exact h2) h3 hC
  refine AW.freeze 29 rfl (AW.to [(5,.d (aI out))] [] (.cons (dM (by simp) rfl) .nil) .nil ?_)
  exact AW.rg hE rfl (aj rfl (bP rfl .dw (Fg (by assumption) (by omega)) (aG rfl (OL.nil (AW.ret (aT.r ⟨_,.tmp rfl .nil,.le (aC (by rw[<- hv];rfl))⟩))))))
theorem ag8 {A C:List Nat}(hA:jy A)(hC:jy C)(nA:A.length<=4398046511104)(nC:C.length<=4398046511104):ai P F.yu [.d (aI A),.d (aI C)] (.d (aI (lim (val A*val C)))):=by
 refine ai.intro fn.yu (by rfl) (by rfl) (au (by rfl)) λE hE=>(AW.sg hE rfl (nI rfl (OL.nil (AW.sg hE rfl (aj rfl (fO sl.aI rfl rfl (aj rfl ?_)))))))
 refine fO sl.aI rfl rfl (bo rfl rfl (lG (c:=((A.length+C.length:Nat):Int)) (by omega) (wrap_i64 (by omega))) (U4 Ak 0 sl.aI z.u32 (.cons (VC.d _) .nil) rfl rfl (Nat.le_refl _) (by omega) (by omega) rfl λb=>(uf rfl (OL.nil (AW.seq (AW.sg hE rfl (aG rfl ?_)))))))
 refine OL.nil (AW.block ?_);refine AW.aX (α:=Nat × List Nat) [(0,_),(1,_),(4,_)] [] (λ(i,out)=>[(5,.bK 15 b (A.length+C.length) (A.length+C.length)),(6,.d (dI i))]) (λ(i,out)=>[(15,.row b (A.length+C.length) T.u32 1 (out.map Ak))]) (λ(i,out)=>out.length=A.length+C.length/\jy out/\val out=val (A.take i)*val C/\i<=A.length/\∀ j,i+C.length<=j->out.getD j 0=0) (λ(i,out)=>A.length-i) (0,List.replicate (A.length+C.length) 0) (.cons (dA rfl) (.cons (dA rfl) (.cons (BO rfl) .nil))) .nil ⟨⟨by simp,jy.zeros _,by simp[jB,F7],by omega,λj _=>XU _ j⟩,.jm,.cons rfl .nil⟩ ?_
 rintro⟨i,TG⟩ ⟨h1,hO0,h2,h3,h4⟩
 refine AW.seq (AW.sg hE rfl (aj rfl (aj rfl (fO sl.aI rfl rfl (bD rfl rfl rfl (OL.nil (AW.cond rfl (λh19=>?_) (λh19=>?_))))))))
 .try simp only[fG] at h19
  refine AW.skip (AW.seq (AW.block (AW.sg hE rfl (aG rfl (OL.nil (AW.seq (AW.sg hE rfl ?_)))))));refine aG rfl (OL.nil (AW.block ?_));refine AW.aX (α:=Nat × List Nat × Nat) [(0,_),(1,_),(4,_),(6,_)] [] (λ(j,out,sum)=>[(5,.bK 15 b (A.length+C.length) (A.length+C.length)),(7,.d (dU sum)),(8,.d (dI j))]) (λ(j,out,sum)=>[(15,.row b (A.length+C.length) T.u32 1 (out.map Ak))]) (λ(j,out,sum)=>out.length=A.length+C.length/\jy out/\val out+sum*Bp (i+j)=val (A.take i)*val C+A.getD i 0*Bp i*val (C.take j)/\sum<=4294967295/\j<=C.length/\∀ k,i+C.length<=k->out.getD k 0=0) (λ(j,out,sum)=>C.length-j) (0,TG,0) (.cons (dA rfl) (.cons (dA rfl) (.cons (BO rfl) (.cons (dA rfl) .nil)))) .nil ⟨⟨h1,hO0,by simp[jB,h2],by omega,by omega,h4⟩,.yI,.cons rfl .nil⟩ ?_
  rintro⟨j,out,sum⟩ ⟨g1,hO,g2,g3,g4,g6⟩
  refine AW.seq (AW.sg hE rfl (aj rfl (aj rfl (fO sl.aI rfl rfl (bD rfl rfl rfl (OL.nil (AW.cond rfl (λh25=>?_) (λh25=>?_))))))))
  .try simp only[fG] at h25
   refine AW.skip (AW.seq (AW.block (AW.seq ?_)));have ha:=hA.getD i;have hc2:=hC.getD j;have ho:=hO.getD (i+j);have hp:A.getD i 0*C.getD j 0<=4294967295*4294967295:=Nat.mul_le_mul (by omega) (by omega)
   have st1:val (out.set (i+j) ((sum+(out.getD (i+j) 0+A.getD i 0*C.getD j 0)) % 4294967296))+(sum+(out.getD (i+j) 0+A.getD i 0*C.getD j 0)) / 4294967296*Bp (i+(j+1))=val (A.take i)*val C+A.getD i 0*Bp i*val (C.take (j+1)):=by
    rw[fU hC];exact NW (by omega) g2 rfl
   refine AW.dg 1 [0,1,2,3,4,5,6,7,8,9,10,11,12,13,14,15,16,17,18,19,20,21] ak hE rfl (by kernel_rfl) (OI.aP (os:=[_,_,_,_,_,_,_,_,_,_,_,_,_,_,_,_,_,_,_,_,_,_]) rfl ?_)
   refine aj rfl (aj rfl (fD sl.aI 0 rfl rfl (by omega) rfl rfl (jb ce.u32 rfl (cv it.u32 it.u64 rfl (wrap_u64 (by omega)) (aj rfl (aj rfl (fD sl.aI 0 rfl rfl (by omega) rfl rfl ?_)))))))
   refine jb ce.u32 rfl (cv it.u32 it.u64 rfl (wrap_u64 (by omega)) (bo rfl rfl (MQ (c:=((A.getD i 0*C.getD j 0:Nat):Int)) (by rw[Int.natCast_mul]) (wrap_u64 (by omega))) (jl rfl (aj rfl (aj rfl (aJ rfl rfl (by omega) (Qr sl.aI rfl rfl (by omega) (by omega) (i:=i+j) (by omega) ?_)))))))
   refine Tj ce.u32 0 (by decide) rfl rfl (by omega) rfl (cv it.u32 it.u64 rfl (wrap_u64 (by omega)) (xF rfl rfl (by omega) (aj rfl (xF rfl rfl (by omega) (aG rfl (OL.nil (AW.rg hE rfl ?_)))))))
   refine jl rfl (aj rfl (aj rfl (aJ rfl rfl (by omega) (aj rfl (cv it.u64 it.u32 rfl (c:=(((sum+(out.getD (i+j) 0+A.getD i 0*C.getD j 0)) % 4294967296:Nat):Int)) (by rw[iC];omega) (aj rfl (Lr rfl rfl rfl ?_)))))))
   refine Qr sl.aI rfl rfl (by omega) (by omega) (i:=i+j) (by omega) (J4 sz.u32 rfl (VC.d _).vd rfl rfl (by simp;omega) (es2:=(out.set (i+j) ((sum+(out.getD (i+j) 0+A.getD i 0*C.getD j 0)) % 4294967296)).map Ak) (by rw[List.map_set]) (aG rfl (OL.nil (AW.rg hE rfl (aj rfl (aJ rfl rfl (by omega) (aG rfl ?_)))))))
   refine OL.nil ?_;exact AW.again (x:=(j,out,sum)) (j+1,out.set (i+j) ((sum+(out.getD (i+j) 0+A.getD i 0*C.getD j 0)) % 4294967296),(sum+(out.getD (i+j) 0+A.getD i 0*C.getD j 0)) / 4294967296) (by (simp only[];omega)) ⟨⟨by simp[g1],hO.set _ (Nat.mod_lt _ (by decide)),st1,by omega,by omega,at7 g6 (by omega)⟩,Knows.app .J5 (.cons vR (.cons (bV.int (by omega)) .dw)),.cons rfl .nil⟩
  .try simp only[fG] at h25
   refine AW.exit (AW.rg hE rfl (jl rfl (aj rfl (aj rfl (fO sl.aI rfl rfl (aJ rfl rfl (by omega) (aj rfl ?_)))))))
   refine cv it.u64 it.u32 rfl (c:=(sum:Int)) (by rw[iC];omega) (Qr sl.aI rfl rfl (by omega) (by omega) (i:=i+C.length) (by omega) (J4 sz.u32 rfl (VC.d _).vd rfl rfl (by simp;omega) (es2:=(out.set (i+C.length) sum).map Ak) (by rw[List.map_set]) (OL.nil (AW.rg hE rfl (aj rfl (aJ rfl rfl (by omega) (aG rfl ?_)))))))
   refine OL.nil ?_;exact AW.again (x:=(i,TG)) (i+1,out.set (i+C.length) sum) (by (simp only[];omega)) ⟨⟨by simp[g1],hO.set _ (by omega),aM4 hA (by omega) (g6 _ (Nat.le_refl _)) (by rw[show j=C.length by omega] at g2;exact g2),by omega,λk hk=>by rw[Go.AL.getD_set_ne (by omega)];exact g6 k (by omega)⟩,Knows.app .yI .jm,.cons rfl .nil⟩
 .try simp only[fG] at h19
  refine AW.exit (AW.seq ?_);have hv:val TG=val A*val C:=by rw[h2,um (by omega)]
  refine AW.freeze 15 rfl (AW.to [(5,.d (aI TG))] [] (.cons (dM (by simp[h1]) rfl) .nil) .nil ?_)
  exact AW.rg hE rfl (aj rfl (bP rfl .dw (Fg (by assumption) (by omega)) (aG rfl (OL.nil (AW.ret (aT.r ⟨_,.tmp rfl .nil,.le (aC (by rw[<- hv];rfl))⟩))))))
theorem Kr {a b:Nat}(na:(lim a).length<=4398046511104)(nb:(lim b).length<=4398046511104):ai P F.zY [.d (aI (lim a)),.d (aI (lim b))] (.d (aI (lim (a+b)))):=by
 have h:=av7 (bI a) (bI b) na nb;rw[bJ,bJ] at h;exact h
theorem Ie {a b:Nat}(na:(lim a).length<=8796093022208)(hle:b<=a):ai P F.yw [.d (aI (lim a)),.d (aI (lim b))] (.d (aI (lim (a-b)))):=by
 have h:=ag7 (bI a) (bI b) na (by rw[bJ,bJ];exact hle)
 rw[bJ,bJ] at h;exact h
theorem uV {a b:Nat}(na:(lim a).length<=4398046511104)(nb:(lim b).length<=4398046511104):ai P F.yu [.d (aI (lim a)),.d (aI (lim b))] (.d (aI (lim (a*b)))):=by
 have h:=ag8 (bI a) (bI b) na nb;rw[bJ,bJ] at h;exact h
theorem Int.MG (m:Nat):((2 ^ m:Nat):Int)=2 ^ m:=by rw[Int.natCast_pow];rfl
theorem Vp (m:Nat):2 ^ (m % 32)<4294967296:=Nat.pow_lt_pow_right (m:=m % 32) (n:=32) (by decide) (Nat.mod_lt _ (by decide))
theorem aN7 (m:Nat):((2 ^ (m % 32):Nat):Int)<=4294967295:=by have:=Vp m;omega
theorem Ig {a b:Nat}(hb:b≠0)(na:(lim a).length<=1099511627776)(nb:(lim b).length<=1099511627776):ai P F.yY [.d (aI (lim a)),.d (aI (lim b))] (.oM [.d (aI (lim (a / b))),.d (aI (lim (a % b)))]):=by
 refine ai.intro fn.yY (by rfl) (by rfl) (au (by rfl)) λE hE=>(AW.sg hE rfl (nI rfl (nI rfl (OL.nil (AW.sg hE rfl (aj rfl (fO sl.aI rfl rfl ?_)))))))
 refine U4 Ak 0 sl.aI z.u32 (.cons (VC.d _) .nil) rfl rfl (Nat.le_refl _) (by omega) (by omega) rfl λb11=>(uf rfl (OL.nil (AW.sg hE rfl (nI rfl (OL.nil (AW.seq (AW.sg hE rfl ?_)))))))
 refine aj rfl (fO sl.aI rfl rfl (Tf rfl rfl (by omega) (iW rfl rfl (by omega) (aG rfl (OL.nil (AW.block ?_))))))
 refine AW.aX (α:=Nat × List Nat × Nat × Nat) [(0,_),(1,_),(4,_),(5,_)] [] (λ(n,q,r,Q)=>[(6,.bK 11 b11 (lim a).length (lim a).length),(7,.d (aI (lim r))),(8,.d (dI ((n:Int)-1)))]) (λ(n,q,r,Q)=>[(11,.row b11 (lim a).length T.u32 1 (q.map Ak))]) (λ(n,q,r,Q)=>q.length=(lim a).length/\jy q/\val q=Q*2 ^ n/\a / 2 ^ n=Q*b+r/\r<b/\n<=32*(lim a).length) (λ(n,q,r,Q)=>n) (32*(lim a).length,List.replicate (lim a).length 0,0,0) (.cons (dA rfl) (.cons (dA rfl) (.cons (BO rfl) (.cons (BO rfl) .nil)))) .nil ⟨⟨by simp,jy.zeros _,by rw[F7,Nat.zero_mul],by rw[ag1,Nat.zero_mul],by omega,Nat.le_refl _⟩,.cons vR (.cons (by rw[eX];exact bV.mt) .dw),.cons rfl .nil⟩ ?_
 rintro⟨n,q,r,Q⟩ ⟨h1,hq,h2,h3,h4,h5⟩
 refine AW.seq (AW.sg hE rfl (aj rfl (tH rfl rfl rfl (OL.nil (AW.cond rfl (λh=>?_) (λh=>?_))))))
 .have h:=mX h;obtain⟨m,rfl⟩:∃ m,n=m+1:=⟨n-1,by omega⟩
  have hmi:((m+1:Nat):Int)-1=(m:Int):=by omega
  have hrl:=ug (Nat.le_of_lt h4);have ht:a / 2 ^ m % 2<2:=Nat.mod_lt _ (by decide)
  have hds:=au0 (i:=m) (Nat.pos_of_ne_zero hb) h3 h4;have hr2:=ug (show r+r+a / 2 ^ m % 2<=b+b by omega)
  have hr3:=ug (show r+r<=b+b by omega)
  have hbb:=Zw b b;refine AW.skip (AW.seq (AW.block (AW.sg hE rfl (aj rfl (aj rfl (bP rfl .jm (Kr (by omega) (by omega)) (aG rfl ?_)))))))
  refine OL.nil ?_;refine AW.XR (α:=Unit) [(0,_),(1,_),(4,_),(5,_),(6,_),(8,_)] [(11,_)] (λ_u=>[(7,.d (aI (lim (r+r+a / 2 ^ m % 2))))]) (λ_u=>[]) (λ_u=>True) (.cons (dA rfl) (.cons (dA rfl) (.cons (BO rfl) (.cons (BO rfl) (.cons (BH rfl) (.cons (dA rfl) .nil)))))) (.cons (tJ rfl) .nil) ?_ ?_
  .refine AW.sg hE rfl (aj rfl (aj rfl (bo rfl rfl (bl4 m 32 hmi (by omega) (by decide)) (fD sl.aI 0 rfl rfl (by omega) rfl rfl (jb ce.u32 rfl (aj rfl (bo rfl rfl (bl5 m 32 hmi (by decide)) ?_)))))))
   refine cv it.int it.uint rfl (wrap_u64 (by omega)) (aL3 rfl rfl ⟨Int.natCast_nonneg _,by rw[Int.toNat_natCast];have:m % 32<32:=Nat.mod_lt _ (by decide);exact Nat.le_of_lt this⟩ (by rw[Int.toNat_natCast,I4]) (bo rfl rfl (as5 (Nat.lt_of_le_of_lt (Nat.div_le_self ..) ((bI a).getD _))) ?_))
   rw[ba6 (bI a),bJ];refine fE rfl rfl rfl (OL.nil (AW.cond rfl (λh33=>?_) (λh33=>?_)))
   .try simp only[fG] at h33
    refine AW.rg hE rfl (aj rfl (xG sl.aI (VC.d _).vd rfl (by decide) (cl (Kr (b:=1) (by omega) (by have:=sD (g:=1) (by decide);omega)) rfl (.cons vR (.cons (aC (by rw[wY (n:=1) (by decide) (by decide)];rfl)) .nil)) (aG rfl (OL.nil ?_)))))
    exact AW.reach () ⟨trivial,Knows.app .Zn (.cons (aC (by rw[show a / 2 ^ m % 2=1 by omega];rfl)) .nil),dP.app (.cons rfl .nil) (.nil)⟩
   .try simp only[fG] at h33
    refine AW.skip ?_;exact AW.reach () ⟨trivial,Knows.app .Zn (.cons (aC (by rw[show a / 2 ^ m % 2=0 by omega];rfl)) .nil),dP.app (.cons rfl .nil) (.nil)⟩
  rintro⟨⟩ hφ
  refine AW.sg hE rfl (aj rfl (aj rfl (cl (LM (by omega) (by omega)) rfl vL (tH rfl rfl rfl (OL.nil (AW.cond rfl (λh40=>?_) (λh40=>?_)))))))
  .have h40:b<=r+r+a / 2 ^ m % 2:=Ja (by have:=mX h40;omega)
   have hsb:=aM5 (i:=m) (by omega) hq h2
   refine AW.sg hE rfl (aj rfl (aj rfl (bP rfl .jm (Ie (by omega) (by assumption)) (aG rfl (OL.nil (AW.rg hE rfl (jl rfl ?_)))))))
   refine aj rfl (bo rfl rfl (bl4 m 32 hmi (by omega) (by decide)) (je sl.aI rfl rfl (by omega) (Tj ce.u32 0 (by decide) rfl rfl (by omega) rfl (aj rfl (bo rfl rfl (bl5 m 32 hmi (by decide)) (cv it.int it.uint rfl (wrap_u64 (by omega)) ?_))))))
   refine bk6 rfl rfl ⟨Int.natCast_nonneg _,by rw[Int.toNat_natCast];have:m % 32<32:=Nat.mod_lt _ (by decide);exact Nat.le_of_lt this⟩ (c:=((2 ^ (m % 32):Nat):Int)) (by rw[Int.toNat_natCast,Int.one_mul,<- Int.MG,wrap_u32 ⟨Int.natCast_nonneg _,aN7 m⟩]) ?_
   refine bo rfl rfl (ba1 (hq.getD _) (Vp m)) (je sl.aI rfl rfl (by omega) (J4 sz.u32 rfl (VC.d _).vd rfl rfl (by simp;omega) (es2:=(q.set (m / 32) (q.getD (m / 32) 0 ||| 2 ^ (m % 32))).map Ak) (by rw[List.map_set]) (OL.nil (AW.rg hE rfl (aj rfl (iW rfl rfl (by omega) (aG rfl ?_)))))))
   refine OL.nil ?_;exact AW.again (x:=(m+1,q,r,Q)) (m,q.set (m / 32) (q.getD (m / 32) 0 ||| 2 ^ (m % 32)),r+r+a / 2 ^ m % 2-b,2*Q+1) (by (simp only[];omega)) ⟨⟨by simp[h1],hsb.2,hsb.1,(hds.2 h40).1,(hds.2 h40).2,by omega⟩,Knows.app .J5 (.cons vR (.cons vR (.cons (bV.int (by omega)) .nil))),.cons rfl .nil⟩
  .have h40:r+r+a / 2 ^ m % 2<b:=by have:=oN h40;rcases Nat.lt_or_ge (r+r+a / 2 ^ m % 2) b with h|h;exact h;exact absurd (XM h) this
   refine AW.skip (AW.rg hE rfl (aj rfl (iW rfl rfl (by omega) (aG rfl (OL.nil ?_)))))
   exact AW.again (x:=(m+1,q,r,Q)) (m,q,r+r+a / 2 ^ m % 2,2*Q) (by (simp only[];omega)) ⟨⟨h1,hq,by rw[h2,Nat.pow_succ,Nat.mul_comm 2 Q,Nat.mul_assoc,Nat.mul_comm 2],hds.1 h40,h40,by omega⟩,Knows.app .J5 (.cons vR (.cons vR (.cons (bV.int (by omega)) .nil))),.cons rfl .nil⟩
 .have h:=oN h;refine AW.exit (AW.seq ?_);obtain rfl:n=0:=by omega
  obtain⟨e1,e2⟩:=aM6 h3 h4;subst e1;subst e2;have hv:val q=a / b:=by rw[h2,Nat.pow_zero,Nat.mul_one]
  refine AW.freeze 11 rfl (AW.to [(6,.d (aI q)),(7,.d (aI (lim (a % b))))] [] (.cons (dM (by simp[h1]) rfl) .dw) .nil ?_)
  refine AW.rg hE rfl (aj rfl (cl (Fg hq (by omega)) rfl vL ?_))
  rw[hv];exact aj rfl (aG rfl (aG rfl (OL.nil (AW.ret (aT.r ⟨_,.tmp rfl (.tmp rfl .nil),_,.cons (.le vR) (.cons (.le vR) .nil),rfl⟩)))))
theorem LP {a b:Nat}(na:(lim a).length<=1099511627776)(nb:(lim b).length<=1099511627776):ai P F.xX [.d (aI (lim a)),.d (aI (lim b))] (.d (aI (lim (Nat.gcd a b)))):=by
 refine ai.intro fn.xX (by rfl) (by rfl) (au (by rfl)) λE hE=>(AW.sg hE rfl (nI rfl (OL.nil (AW.seq (AW.block ?_)))))
 refine AW.aX (α:=Nat × Nat) [(4,_)] [] (λ(x,y)=>[(0,.d (aI (lim x))),(1,.d (aI (lim y)))]) (λ(x,y)=>[]) (λ(x,y)=>Nat.gcd x y=Nat.gcd a b/\(lim x).length<=1099511627776/\(lim y).length<=1099511627776) (λ(x,y)=>y) (a,b) (.cons (BO rfl) .nil) .nil ⟨⟨rfl,na,nb⟩,.jm,.nil⟩ ?_
 rintro⟨x,y⟩ ⟨h1,h2,h3⟩
 refine AW.seq (AW.sg hE rfl (aj rfl (fO sl.aI rfl rfl (kS rfl rfl rfl (OL.nil (AW.cond rfl (λh=>?_) (λh=>?_)))))))
 .have hy:y≠0:=λe=>by have:=mX h;rw[e,eX] at this;exact absurd this (by decide)
  have hml:(lim (x % y)).length<=1099511627776:=Nat.le_trans (ug (Nat.mod_le x y)) h2;refine AW.skip (AW.block (AW.sg hE rfl (aj rfl (aj rfl (bP rfl .jm (Ig (by assumption) (by assumption) (by assumption)) (ES rfl (ex rfl rfl ?_)))))))
  refine ex rfl rfl (aG rfl (aG rfl (OL.nil (AW.rg hE rfl (aj rfl (aj rfl (aG rfl ?_)))))));exact aG rfl (OL.nil (AW.again (x:=(x,y)) (y,x % y) (by exact Nat.mod_lt _ (Nat.pos_of_ne_zero hy)) ⟨⟨by rw[<- h1,Nat.gcd_comm y,<- Nat.gcd_rec,Nat.gcd_comm],h3,hml⟩,Knows.app .dw .jm,.nil⟩))
 .have hy:y=0:=by have:=oN h;exact dO.1 (by omega)
  exact AW.exit (AW.sg hE rfl (aj rfl (aG rfl (OL.nil (AW.ret (aT.r ⟨_,.tmp rfl .nil,.le (aC (by rw[<- h1,hy,Nat.gcd_zero_right];rfl))⟩))))))
theorem Fh {L:List Nat}(hL:jy L):ai P F.BZ [.d (aI L)] (.d (dB (decide (L=[1])))):=by
 refine ai.intro fn.BZ (by rfl) (by rfl) (au (by rfl)) λE hE=>(AW.sg hE rfl (aG rfl (OL.nil (AW.sg hE rfl (aj rfl (fO sl.aI rfl rfl (fE rfl rfl rfl ?_)))))))
 refine aj rfl (OL.split 6 rfl (λg6=>?_) (λg6=>?_))
 .try simp only[fG] at g6
  refine OL.yes rfl (aj rfl (OL.yes rfl (Qa 0 sl.aI 0 rfl rfl rfl (by omega) rfl rfl (OL.yes rfl (jb ce.u32 rfl (OL.yes rfl (fE rfl rfl rfl ?_)))))))
  exact nJ rfl rfl (aG rfl (OL.nil (AW.ret (aT.r ⟨_,.tmp rfl .nil,.le (bV.bool (by have e:=ZA hL;exact decide_eq_decide.2 ⟨λh=>e.2 ⟨by omega,by omega⟩,λh=>by have:=(e.1 h).2;omega⟩))⟩))))
 .try simp only[fG] at g6
  exact OL.nd rfl (OL.nd rfl (OL.nd rfl (OL.nd rfl (oI rfl rfl (aG rfl (OL.nil (AW.ret (aT.r ⟨_,.tmp rfl .nil,.le (bV.bool (by have e:=ZA hL;exact (decide_eq_false λh=>by have:=(e.1 h).1;omega).symm))⟩))))))))
theorem ZN {n:Nat}:ai P F.BZ [.d (aI (lim n))] (.d (dB (decide (n=1)))):=by
 have h:=Fh (bI n);rw[show decide (lim n=[1])=decide (n=1) from decide_eq_decide.2 H9] at h;exact h

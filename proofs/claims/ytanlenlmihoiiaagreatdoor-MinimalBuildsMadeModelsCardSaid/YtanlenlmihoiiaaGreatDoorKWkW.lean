/-
  Walks of layers 3, 6 and 15 of the specification and of equal.Zero (printed by mk2.py).
-/
import Derived.Test.YtanlenlmihoiiaaGreatDoorKWkU
set_option maxHeartbeats 3200000
set_option linter.unusedVariables false
set_option linter.unusedSimpArgs false
namespace Go.Proofs.YtanlenlmihoiiaaGreatDoor
open Go Go.AL
theorem aU1 {l m:List Int}(nl:l.length<=1099511627776)(e:l=m):ai P F.A7 [.d (ints l),.d (ints m)] (.d (dB true)):=by
 have h:=bf9 (l:=l) (m:=m) nl
 rwa [decide_eq_true e] at h
theorem lN {m:lZ}:Au.Take (dZ m 2 3) 2 :=
 have ok:=aP7 (m:=m) (sym:=2) (most:=3) (by decide) (by decide)
 have hs:=NM (m:=m) (most:=3) (by decide)
 ⟨⟨ok,zV.wide,rfl,(show 2<=32 by decide),(by show gU m 3<=64;omega)⟩,zV.few (by show gU m 3<=6;omega),hs.1⟩
end Go.Proofs.YtanlenlmihoiiaaGreatDoor
namespace Go.AL
open Go Go.BigFrame
section
variable {P:Program}{E:Env}{K:S->Prop}{s:S}{ty:Nat}{pos:String}{after:Array Edge}
theorem RO.all {M Mk:Mem}{id b n c e sz:Nat}{es:List D}{d:D}(hM:M id=some (.row b c e sz es))(hk:Mk id=Option.none)(hn:n=es.length)(hd:d=.sl es):RO M Mk (.bI id b n c) (.d d):=by
 subst hn hd;have h:=RO.bI (M:=M) (Mk:=Mk) hM hk (Nat.le_refl es.length)
 rwa [List.take_length] at h
end
end Go.AL
namespace Go.Proofs.YtanlenlmihoiiaaGreatDoor
open Go Go.AL
theorem aU2 {l:List Rat}{i:Nat}(hi:i<l.length):(l.map dW)[i]? = some (dW (l.getD i 0)):=by rw[List.getElem?_map,jh,lQ hi];rfl
abbrev JY (l:List bU):List bU:=l.map λx=>⟨x.t,x.l,x.f,x.q⟩
theorem Lr {l:List bU}:(JY l).length=l.length:=dA ..
theorem Zj {l:List bU}{i:Nat}(hi:i<l.length):(JY l).take (i+1)=(JY l).take i++[⟨(l.getD i default).t,(l.getD i default).l,(l.getD i default).f,(l.getD i default).q⟩]:=by
 rw[iL default (by rw[Lr];exact hi)]
 congr 2;unfold JY;rw[jh,List.getElem?_map,jh,lQ hi];rfl
abbrev bg1 (a:Au):Au:=⟨a.sym,a.st,a.fin,a.ini,JY a.aN⟩
theorem aU3 {a:Au}(h:a.Ok):(bg1 a).Ok:=⟨h.Jl,h.fin,h.ini,λy hy=>by
 obtain⟨x,hx,rfl⟩:=kK hy;have:=h.arc x hx;exact⟨this.2.1,this.1,this.2.2⟩⟩
theorem aU4 {a:Au}(h:a.Sz 134217728 20):(bg1 a).Sz 134217728 20:=⟨h.fin,h.ini,λy hy=>by
 obtain⟨x,hx,rfl⟩:=kK hy;exact h.arc x hx,by show (JY a.aN).length<=20;rw[Lr];exact h.num⟩
theorem aU5  : ai P F.Ew [kS,kS] (.d (dB true)):=by
 refine ai.intro fn.Ew (by rfl) (by rfl) (ay (by rfl)) λE hE=>(AW.sg hE rfl (iO rfl rfl λb2=>(iO rfl rfl λb3=>(aF rfl (OL.nil (AW.seq (AW.sg hE rfl ?_)))))))
 refine bC fd.lD rfl rfl (aG ce.int rfl rfl rfl (bC fd.lD rfl rfl (aG ce.int rfl rfl rfl (eX rfl rfl (c:=false) (kY rfl) (aj rfl (OL.yes rfl (bC fd.EW rfl rfl ?_)))))));refine OL.yes rfl (aG ce.ints rfl rfl rfl (OL.yes rfl (LP sl.ints rfl rfl rfl (OL.yes rfl (bC fd.EW rfl rfl (OL.yes rfl (aG ce.ints rfl rfl rfl ?_)))))));refine OL.yes rfl (LP sl.ints rfl rfl rfl (OL.yes rfl (eX rfl rfl (c:=false) (kY rfl) (oI rfl rfl (OL.nil (oH rfl ?_))))));refine AW.skip (AW.seq (AW.sg hE rfl (aF rfl (OL.nil (AW.block (AW.aY (α:=Unit) [(2,_),(3,_)] [(2,_),(3,_)] (λ_u=>[(5,.d (dI 0))]) (λ_u=>[]) (λ_u=>True) (λ_u=>0) () (.cons (iw rfl) (.cons (iw rfl) .nil)) (.cons (je rfl) (.cons (je rfl) .nil)) ⟨trivial,.dD,.nil⟩ ?_))))));intro _ _;refine AW.seq (AW.sg hE rfl (aj rfl (bC fd.EW rfl rfl (aG ce.ints rfl rfl rfl (LP sl.ints rfl rfl rfl (bG rfl rfl rfl (OL.nil ?_)))))));refine AW.cond rfl (λhno=>absurd hno (by simp)) (λ_=>?_)
 exact AW.exit (AW.sg hE rfl (aF rfl (OL.nil (AW.ret (aP.r ⟨_,.tmp rfl .nil,.le vR⟩)))))
theorem af0 {p q:Rat}(hp:sz p<=68719476736)(hq:sz q<=68719476736):ai P F.Cb [kS,vW p,vW q] (vW (p*q)):=by
 refine ai.intro fn.Cb (by rfl) (by rfl) (ay (by rfl)) λE hE=>(AW.sg hE rfl (iO rfl rfl λb3=>(iO rfl rfl λb4=>(iO rfl rfl λb5=>(al z.aC rfl λb6=>(OL.nil (AW.seq ?_)))))))
 refine AW.sg hE rfl (aQ ag.Ring rfl rfl (vs:=[_,_]) rfl (ay rfl) (bH rfl .dD (G5) (nt rfl (OL.nil (oH rfl ?_)))));refine AW.skip (AW.seq (AW.dg 1 [0,1,2,3,4,5,6,7] ak hE rfl (by kernel_rfl) (OI.aK (os:=[_,_,_,_,_,_,_,_]) rfl ?_)))
 refine aQ ag.Ring rfl rfl (vs:=[_,_]) rfl (ay rfl) (aQ ag.aC rfl rfl (vs:=[_,_,_,_,_,_,_,_]) rfl (ay rfl) (bH rfl vL (Lm hp) (aQ ag.Ring rfl rfl (vs:=[_,_]) rfl (ay rfl) (aQ ag.aC rfl rfl (vs:=[_,_,_,_,_,_,_,_]) rfl (ay rfl) (bH rfl vL (Lm hq) (fA sz.aC rfl rfl rfl rfl rfl (ay rfl) (cells2:=[_,_,_,_,_,_,_,_]) rfl (fA sz.aC rfl rfl rfl rfl rfl (ay rfl) (cells2:=[_,_,_,_,_,_,_,_]) rfl ?_)))))));refine OL.nil (AW.seq (AW.sg hE rfl (bC fd.lD rfl rfl (aG ce.int rfl rfl rfl (OL.nil (AW.block (AW.seq ?_)))))));refine AW.sg hE rfl (fG rfl rfl (c:=true) (by exact decide_eq_true (by omega)) (aF rfl (OL.nil (Hr rfl ?_))))
 refine AW.skip (Hr rfl ?_);refine AW.sg hE rfl (bC fd.iC rfl rfl (aQ ag.Rat rfl rfl (vs:=[_,_,_]) rfl (ay rfl) (bC fd.iC rfl rfl (aQ ag.Rat rfl rfl (vs:=[_,_,_]) rfl (ay rfl) (bH rfl vL (Ea (x:=p) (y:=q) hp hq) (bd z.aC pl.aC (cs:=[_,_,_,_,_,_,_,_]) rfl (fA sz.aC rfl rfl rfl rfl rfl (ay rfl) (cells2:=[_,_,_,_,_,_,_,_]) rfl ?_)))))));exact OL.nil (AW.ret (aP.r ⟨_,.dN rfl rfl ag.aC (ay rfl) .nil,.le IC⟩))
theorem TD {l:List Rat}(nl:l.length<=64)(hz:∀ x,x ∈ l->sz x<=134217728):ai P F.yA [kS,.d (qG l),.d (dI l.length)] (.d (dB true)):=by
 refine ai.intro fn.yA (by rfl) (by rfl) (ay (by rfl)) λE hE=>(AW.sg hE rfl (iO rfl rfl λb3=>(aF rfl (OL.nil (AW.seq (AW.sg hE rfl (aj rfl ?_)))))))
 refine fF sl.aW rfl rfl (aj rfl (eX rfl rfl (c:=false) (kY rfl) (OL.nil (oH rfl ?_))));refine AW.skip (AW.seq (AW.sg hE rfl (aF rfl (OL.nil (AW.block ?_)))));refine AW.aY (α:=Nat) [(1,_),(2,_),(3,_)] [(3,_)] (λi=>[(7,.d (dI i))]) (λi=>[]) (λi=>i<=l.length) (λi=>l.length-i) 0 (.cons (di rfl) (.cons (di rfl) (.cons (iw rfl) .nil))) (.cons (je rfl) .nil) ⟨Nat.zero_le _,.dD,.nil⟩ ?_
 rintro i h1
 have h1:i<=l.length:=h1;refine AW.seq (AW.sg hE rfl (aj rfl (aj rfl (bG rfl rfl rfl (OL.nil (AW.cond rfl (λCO=>?_) (λCO=>?_)))))))
 .try simp only[fD] at CO
  refine AW.skip (AW.seq (AW.block (AW.seq ?_)));have hx:=hz (l.getD i 0) (getD_mem (by omega) 0)
  refine AW.dg 1 [0,1,2,3,4,5,6] ak hE rfl (by kernel_rfl) (OI.aK (os:=[_,_,_,_,_,_,_]) rfl ?_)
  refine aQ ag.Ring rfl rfl (vs:=[_,_]) rfl (ay rfl) (aj rfl (aj rfl (dR sl.aW 0 rfl rfl (by omega) rfl rfl (iD ag.aC rfl (vs:=[_,_,_,_,_,_,_,_]) rfl (ay rfl) (bH rfl vL (U3 (q:=(l.getD i 0)) (by omega)) (nt rfl (OL.nil ?_)))))))
  refine oH rfl ?_;exact AW.skip (AW.rg hE rfl (aj rfl (aI rfl rfl (by omega) (aF rfl (OL.nil (AW.again (x:=i) (i+1) (by omega) ⟨by omega,Knows.app .yU .dD,dL.app (.cons rfl .nil) (.nil)⟩))))))
 .try simp only[fD] at CO
  exact AW.exit (AW.sg hE rfl (aF rfl (OL.nil (AW.ret (aP.r ⟨_,.tmp rfl .nil,.le vR⟩)))))
theorem U8 {a:Au}(h:a.Ok)(za:a.Sz 134217728 20)(s1:a.sym<=32)(s2:a.st<=64):ai P F.BR [yV a] (.d (dB true)):=by
 have e1:=h.ini;have e2:=h.fin;have e3:=za.num;have h0:=h.Jl;refine ai.intro fn.BR (by rfl) (by rfl) (ay (by rfl)) λE hE=>(AW.sg hE rfl (iO rfl rfl λb1=>(aF rfl (OL.nil (AW.seq (AW.sg hE rfl (bC fd.jE rfl rfl ?_)))))))
 refine aQ ag.Ring rfl rfl (vs:=[_,_]) rfl (ay rfl) (bH rfl .dD (G5) (nt rfl (aj rfl (OL.yes rfl (bC fd.lX rfl rfl (OL.yes rfl (aG ce.int rfl rfl rfl ?_)))))));refine OL.yes rfl (bH rfl vL (ae8 (s:=a.sym) (by omega)) (OL.yes rfl (nt rfl (oI rfl rfl (aj rfl (OL.yes rfl (bC fd.oz rfl rfl ?_)))))))
 refine OL.yes rfl (aG ce.int rfl rfl rfl (OL.yes rfl (bH rfl vL (aT9 (v:=a.st) (lo:=0) (hi:=64) (by omega)) (OL.yes rfl (nt rfl (oI rfl rfl (aj rfl ?_)))))))
 refine OL.yes rfl (bC fd.jE rfl rfl (OL.yes rfl (aQ ag.Ring rfl rfl (vs:=[_,_]) rfl (ay rfl) (OL.yes rfl (bC fd.qW rfl rfl (OL.yes rfl (aG ce.aW rfl rfl rfl ?_)))))));refine OL.yes rfl (bC fd.oz rfl rfl (OL.yes rfl (aG ce.int rfl rfl rfl (OL.yes rfl (bH rfl (.cons vR (.cons vR (.cons (bW.int (by omega)) .nil))) (TD (l:=a.ini) (by omega) za.ini) (OL.yes rfl (nt rfl ?_)))))))
 refine oI rfl rfl (aj rfl (OL.yes rfl (bC fd.jE rfl rfl (OL.yes rfl (aQ ag.Ring rfl rfl (vs:=[_,_]) rfl (ay rfl) (OL.yes rfl (bC fd.uw rfl rfl ?_)))))));refine OL.yes rfl (aG ce.aW rfl rfl rfl (OL.yes rfl (bC fd.oz rfl rfl (OL.yes rfl (aG ce.int rfl rfl rfl (OL.yes rfl (bH rfl (.cons vR (.cons vR (.cons (bW.int (by omega)) .nil))) (TD (l:=a.fin) (by omega) za.fin) ?_)))))))
 refine OL.yes rfl (nt rfl (oI rfl rfl (aj rfl (OL.yes rfl (bC fd.gK rfl rfl (OL.yes rfl (aG ce.dm rfl rfl rfl ?_)))))));refine OL.yes rfl (fF sl.dm rfl rfl (OL.yes rfl (jI rfl rfl (c:=false) (by exact decide_eq_false (by omega)) (oI rfl rfl (OL.nil (oH rfl ?_))))))
 refine AW.skip (AW.seq (AW.sg hE rfl (aF rfl (OL.nil (AW.block (AW.aY (α:=Nat) [(1,_)] [(1,_)] (λi=>[(3,.d (dI i))]) (λi=>[]) (λi=>i<=a.aN.length) (λi=>a.aN.length-i) 0 (.cons (iw rfl) .nil) (.cons (je rfl) .nil) ⟨Nat.zero_le _,.dD,.nil⟩ ?_))))))
 rintro i h1
 have h1:i<=a.aN.length:=h1;refine AW.seq (AW.sg hE rfl (aj rfl (bC fd.gK rfl rfl (aG ce.dm rfl rfl rfl (fF sl.dm rfl rfl (bG rfl rfl rfl (OL.nil ?_)))))));refine AW.cond rfl (λh51=>?_) (λh51=>?_)
 .try simp only[fD] at h51
  refine AW.skip (AW.seq (AW.block (AW.seq ?_)));have hm:=getD_mem (l:=a.aN) (i:=i) (by omega) default
  have hx:=za.arc (a.aN.getD i default) hm;obtain⟨hx1,hx2,hx3,hx4⟩:=h.arc (a.aN.getD i default) hm;refine AW.rg hE rfl (bC fd.gK rfl rfl (aG ce.dm rfl rfl rfl (aj rfl (dR sl.dm default rfl rfl (by omega) rfl rfl (iD ag.mX rfl (vs:=[_,_,_,_,_,_,_,_,_,_,_]) rfl (ay rfl) (al z.mX rfl λb4=>(fA sz.mX rfl rfl rfl rfl rfl (ay rfl) (cells2:=[_,_,_,_,_,_,_,_,_,_,_]) rfl ?_)))))))
  refine OL.nil (AW.sg hE rfl (bC fd.Ib rfl rfl (aG ce.int rfl rfl rfl (bC fd.oz rfl rfl (aG ce.int rfl rfl rfl (bo rfl rfl (mg (c:=(a.st:Int)-1) (by omega) (wrap_i64 (by omega))) (bH rfl vL (aT9 (v:=(a.aN.getD i default).f) (lo:=0) (hi:=(a.st:Int)-1) (by omega)) ?_)))))))
  refine nt rfl (aj rfl (OL.yes rfl (bC fd.Fh rfl rfl (OL.yes rfl (aG ce.int rfl rfl rfl (OL.yes rfl (bC fd.oz rfl rfl ?_)))))));refine OL.yes rfl (aG ce.int rfl rfl rfl (OL.yes rfl (bo rfl rfl (mg (c:=(a.st:Int)-1) (by omega) (wrap_i64 (by omega))) (OL.yes rfl (bH rfl vL (aT9 (v:=(a.aN.getD i default).t) (lo:=0) (hi:=(a.st:Int)-1) (by omega)) (OL.yes rfl (nt rfl ?_)))))))
  refine oI rfl rfl (aj rfl (OL.yes rfl (bC fd.DK rfl rfl (OL.yes rfl (aG ce.int rfl rfl rfl (OL.yes rfl (bC fd.lX rfl rfl ?_)))))));refine OL.yes rfl (aG ce.int rfl rfl rfl (OL.yes rfl (bH rfl vL (aT9 (v:=(a.aN.getD i default).l) (lo:=0) (hi:=a.sym) (by omega)) (OL.yes rfl (nt rfl (oI rfl rfl (aj rfl ?_)))))))
  refine OL.yes rfl (bC fd.jE rfl rfl (OL.yes rfl (aQ ag.Ring rfl rfl (vs:=[_,_]) rfl (ay rfl) (OL.yes rfl (bC fd.rC rfl rfl (OL.yes rfl (aQ ag.aC rfl rfl (vs:=[_,_,_,_,_,_,_,_]) rfl (ay rfl) ?_)))))));refine OL.yes rfl (bH rfl vL (U3 (q:=(a.aN.getD i default).q) (by omega)) (OL.yes rfl (nt rfl (oI rfl rfl (OL.nil (oH rfl ?_))))))
  exact AW.skip (AW.rg hE rfl (aj rfl (aI rfl rfl (by omega) (aF rfl (OL.nil (AW.again (x:=i) (i+1) (by omega) ⟨by omega,Knows.app .dD .dD,dL.app (.cons rfl .nil) (.nil)⟩))))))
 .try simp only[fD] at h51
  exact AW.exit (AW.sg hE rfl (aF rfl (OL.nil (AW.ret (aP.r ⟨_,.tmp rfl .nil,.le vR⟩)))))
theorem aU6 {a:Au}(h:a.Ok)(za:a.Sz 134217728 20)(s2:a.st<=64):ai P F.EC [yV a] (.mM [yV (lF a),.d (dI 0)]):=by
 have e3:=za.num;have e4:=tZ a.aN;refine ai.intro fn.EC (by rfl) (by rfl) (ay (by rfl)) λE hE=>(AW.sg hE rfl (iO rfl rfl λb1=>(al z.Auto rfl λb2=>(aF rfl (OL.nil (AW.seq (AW.sg hE rfl ?_)))))))
 refine bC fd.oz rfl rfl (aG ce.int rfl rfl rfl (jI rfl rfl (c:=false) (by exact decide_eq_false (by omega)) (OL.nil (oH rfl ?_))))
 refine AW.skip (AW.sg hE rfl (aQ ag.Auto rfl rfl (vs:=[_,_,_,_,_,_,_]) rfl (ay rfl) (bH rfl vL (Lp (a:=a) h za s2) (fA sz.Auto rfl rfl rfl rfl rfl (ay rfl) (cells2:=[_,_,_,_,_,_,_]) rfl (OL.nil (AW.seq (AW.sg hE rfl ?_)))))));refine bC fd.gK rfl rfl (aG ce.dm rfl rfl rfl (fF sl.dm rfl rfl (jI rfl rfl (c:=false) (decide_eq_false (by show ¬ (2048:Int)<((pX a.aN).length:Int);omega)) (OL.nil (oH rfl ?_)))))
 refine AW.skip (AW.sg hE rfl (aQ ag.Auto rfl rfl (vs:=[_,_,_,_,_,_,_]) rfl (ay rfl) (fA sz.Auto rfl rfl rfl rfl rfl (ay rfl) (cells2:=[_,_,_,_,_,_,_]) rfl (aF rfl (OL.nil ?_)))));exact AW.ret (aP.r ⟨_,.dN rfl rfl ag.Auto (ay rfl) (.tmp rfl .nil),_,.cons (.ag (.cons (.le vR) (.cons (.le vR) (.cons (.le vR) (.cons (.le vR) (.cons (.le vR) (.cons (.le vR) (.cons (.le vR) .nil)))))))) (.cons (.le vR) .nil),rfl⟩)
theorem Qn {a:Au}{s:Nat}(f:Au.Fit a s):ai P F.yc [yV a] (.mM [yV (pJ a),.d (dI 0)]):=by
 have e3:=f.sz.num;have hsl:=Lr (l:=a.aN);refine ai.intro fn.yc (by rfl) (by rfl) (ay (by rfl)) λE hE=>(AW.sg hE rfl (iO rfl rfl λb1=>(al z.Auto rfl λb2=>(aF rfl (OL.nil (AW.seq (AW.sg hE rfl ?_)))))))
 refine aQ ag.Auto rfl rfl (vs:=[_,_,_,_,_,_,_]) rfl (ay rfl) (bH rfl vL (U8 (a:=a) f.ok f.sz f.s1 f.st) (nt rfl (OL.nil (oH rfl ?_))));refine AW.skip (AW.sg hE rfl (bC fd.jE rfl rfl (aQ ag.Ring rfl rfl (vs:=[_,_]) rfl (ay rfl) (bC fd.lX rfl rfl (aG ce.int rfl rfl rfl (bC fd.oz rfl rfl (aG ce.int rfl rfl rfl ?_)))))));refine bC fd.uw rfl rfl (aG ce.aW rfl rfl rfl (bC fd.qW rfl rfl (aG ce.aW rfl rfl rfl (L6 (cs:=[_,_,_,_,_,_,_]) z.Auto pl.Auto (lI (by exact X5 rfl) (lI (by exact uG rfl) (lI (by exact uG rfl) (lI (by exact uG rfl) (lI (by exact uG rfl) (LZ)))))) (by rfl) (al z.Auto rfl λb4=>(fA sz.Auto rfl rfl rfl rfl rfl (ay rfl) (cells2:=[_,_,_,_,_,_,_]) rfl (OL.nil ?_)))))))
 refine AW.seq (AW.sg hE rfl (aF rfl (OL.nil (AW.block (AW.rf 46 T.mX 11 rfl ?_)))));refine AW.oZ 4 [.d (dI 1),.d (.sl []),.d (dI a.sym),.d (dI a.st),.d (qG a.fin),.d (qG a.ini),.bI 46 0 0 0] rfl (.cons vR (.cons vR (.cons vR (.cons vR (.cons vR (.cons vR (.cons jB .nil))))))) ?_;refine AW.aY (α:=Nat × Nat × Nat) [(1,_),(2,_),(3,_),(4,_)] [(1,_),(2,_)] (λ(i,bq,cq)=>[(5,.d (dI i))]) (λ(i,bq,cq)=>[(4,.box b4 T.Auto [.d (dI 1),.d (.sl []),.d (dI a.sym),.d (dI a.st),.d (qG a.fin),.d (qG a.ini),.bI 46 bq i cq]),(46,rowA bq cq ((JY a.aN).take i))]) (λ(i,bq,cq)=>i<=a.aN.length) (λ(i,bq,cq)=>a.aN.length-i) (0,0,0) (.cons (iw rfl) (.cons (iw rfl) (.cons (di rfl) (.cons (iw rfl) .nil)))) (.cons (je rfl) (.cons (je rfl) .nil)) ⟨Nat.zero_le _,.dD,.cons rfl (.cons rfl .nil)⟩ ?_
 rintro⟨i,bq,cq⟩ h1
 have h1:i<=a.aN.length:=h1;refine AW.seq (AW.sg hE rfl (aj rfl (bC fd.gK rfl rfl (aG ce.dm rfl rfl rfl (fF sl.dm rfl rfl (bG rfl rfl rfl (OL.nil ?_)))))));refine AW.cond rfl (λh26=>?_) (λh26=>?_)
 .try simp only[fD] at h26
  refine AW.skip (AW.seq (AW.block (AW.sg hE rfl (bC fd.gK rfl rfl (aG ce.dm rfl rfl rfl (aj rfl (dR sl.dm default rfl rfl (by omega) rfl rfl ?_)))))))
  refine iD ag.mX rfl (vs:=[_,_,_,_,_,_,_,_,_,_,_]) rfl (ay rfl) (al z.mX rfl λb6=>(fA sz.mX rfl rfl rfl rfl rfl (ay rfl) (cells2:=[_,_,_,_,_,_,_,_,_,_,_]) rfl (OL.nil (AW.rg hE rfl (bC fd.gK rfl rfl (aG ce.dm rfl rfl rfl (bC fd.Fh rfl rfl ?_)))))));refine aG ce.int rfl rfl rfl (bC fd.DK rfl rfl (aG ce.int rfl rfl rfl (bC fd.Ib rfl rfl (aG ce.int rfl rfl rfl (bC fd.rC rfl rfl (aQ ag.aC rfl rfl (vs:=[_,_,_,_,_,_,_,_]) rfl (ay rfl) (L6 (cs:=[_,_,_,_,_,_,_,_,_,_,_]) z.mX pl.mX (lI (by exact uG rfl) (lI (by exact uG rfl) (lI (by exact uG rfl) (lI (by exact X5 rfl) (LZ))))) (by rfl) ?_)))))))
  refine rF (y:=jG ⟨(a.aN.getD i default).t,(a.aN.getD i default).l,(a.aN.getD i default).f,(a.aN.getD i default).q⟩) sl.dm (xQ (x:=⟨(a.aN.getD i default).t,(a.aN.getD i default).l,(a.aN.getD i default).f,(a.aN.getD i default).q⟩)) rfl (by decide) ?_
  refine xZ sl.dm rfl rfl rfl (by rw[dA,List.length_take];omega) (VC.d _) (λy hy=>by rw[jJ hy];rfl) (by simp only[iY,dA,List.length_take];omega) (by simp only[iY,dA,List.length_take];omega) (.inr rfl) (ys:=((JY a.aN).take (i+1)).map jG) (by rw[Zj (by omega),List.map_append];rfl) (n2:=i+1) rfl λb46 c46=>?_
  refine bC fd.gK rfl rfl (fA sz.dm rfl rfl rfl rfl rfl (ay rfl) (cells2:=[_,_,_,_,_,_,_]) rfl (OL.nil (AW.rg hE rfl (aj rfl (aI rfl rfl (by omega) (aF rfl (OL.nil ?_)))))))
  exact AW.again (x:=(i,bq,cq)) (i+1,b46,c46) (by (simp only[];omega)) ⟨by omega,Knows.app .LV .dD,dL.app (.cons rfl (.cons rfl .nil)) (.cons rfl (.cons rfl .nil))⟩
 .try simp only[fD] at h26
  refine AW.exit (AW.seq ?_);obtain rfl:i=a.aN.length:=by omega
  refine AW.freeze 46 rfl (AW.oZ 4 [.d (dI 1),.d (.sl []),.d (dI a.sym),.d (dI a.st),.d (qG a.fin),.d (qG a.ini),.d (jW (JY a.aN))] rfl (.cons vR (.cons vR (.cons vR (.cons vR (.cons vR (.cons vR (.cons (dP (by rw[dA,List.length_take];omega) (by rw[List.take_of_length_le (by omega)])) .nil))))))) ?_)
  refine AW.rg hE rfl (aQ ag.Auto rfl rfl (vs:=[_,_,_,_,_,_,_]) rfl (ay rfl) (bH rfl vL (aU6 (a:=bg1 a) (aU3 f.ok) (aU4 f.sz) f.st) (ex rfl rfl (ex rfl rfl (fA sz.Auto rfl rfl rfl rfl rfl (ay rfl) (cells2:=[_,_,_,_,_,_,_]) rfl (aF rfl (OL.nil ?_)))))));exact AW.ret (aP.r ⟨_,.dN rfl rfl ag.Auto (ay rfl) (.tmp rfl .nil),_,.cons (.ag (.cons (.le vR) (.cons (.le vR) (.cons (.le vR) (.cons (.le vR) (.cons (.le vR) (.cons (.le vR) (.cons (.le vR) .nil)))))))) (.cons (.le vR) .nil),rfl⟩)

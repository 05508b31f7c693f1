/-
  AL, part 43: a call that reads an owned row as data, and answers a number.
-/
import Derived.Test.YtanlenlmihoiiaaGreatDoorKWkW
set_option maxHeartbeats 1600000
set_option linter.unusedVariables false
set_option linter.unusedSimpArgs false
namespace Go.Proofs.YtanlenlmihoiiaaGreatDoor
open Go Go.AL
theorem fc.qW:FH P T.Auto 3 4:=⟨by kernel_rfl⟩
theorem Qo {l:List Int}:∀ y,y ∈ l.map dI->y.cells.length=1:=λy hy=>by obtain⟨a,_,rfl⟩:=kK hy;rfl
theorem Zk {n i:Nat}(h:i<n):(List.replicate n (0:Rat)).take (i+1)=(List.replicate n (0:Rat)).take i++[0]:=by
 rw[List.take_replicate,List.take_replicate,Nat.min_eq_left h,Nat.min_eq_left (Nat.le_of_lt h),List.replicate_succ']
theorem aU7 {v w:List Rat}{B i:Nat}(hv:∀ i,sz (v.getD i 0)<=B)(hw:∀ i,sz (w.getD i 0)<=1):sz (Ld v w i)<=1+i*(B+1+1):=O5 i λj _=>by
 have:=lu (v.getD j 0) (w.getD j 0);have:=hv j;have:=hw j;omega
structure Au.Wt (a:Au):Prop where
 ok:a.Ok
 sz:a.Sz 1 10
 s2:a.sym<=32
 st:a.st<=64
theorem Au.Wt.wide {a:Au}(f:Au.Wt a):a.Sz 134217728 20:=Go.AL.Au.Sz.wide f.sz
theorem JA {a:Au}(f:Au.Wt a){v:List Rat}{B s i j:Nat}(hv:∀ i,sz (v.getD i 0)<=B):sz ((kJ a.st v s (a.aN.take i)).getD j 0)<=10*(B+2)+1:=by
 have h2:(a.aN.take i).length<=a.aN.length:=by rw[List.length_take];exact Nat.min_le_right ..
 exact Xi hv (λx hx=>⟨(f.ok.arc x (List.mem_of_mem_take hx)).2.1,f.sz.arc x (List.mem_of_mem_take hx)⟩) (Nat.le_trans h2 f.sz.num)
theorem aF9 {v out:List Rat}{s:Nat}{x:bU}(h:x.l=s):UZ v s out x=out.set x.t (out.getD x.t 0+v.getD x.f 0*x.q):=if_pos h
theorem aG0 {v out:List Rat}{s:Nat}{x:bU}(h:¬ x.l=s):UZ v s out x=out:=if_neg h
theorem aU8 {w:List Int}{s:Nat}(hs:1<=s/\s<=32)(hw:iV s w)(hl:w.length<=256):ai P F.Cj [.d (ints w),.d (dI s)] (.d (dB true)):=by
 refine ai.intro fn.Cj (by rfl) (by rfl) (ay (by rfl)) λE hE=>(AW.sg hE rfl (aF rfl (OL.nil (AW.seq (AW.sg hE rfl (aj rfl (bH rfl vL (ae8 (s:=s) hs) ?_)))))))
 refine nt rfl (aj rfl (OL.yes rfl (aj rfl (OL.yes rfl (fF sl.ints rfl rfl (OL.yes rfl (jI rfl rfl (c:=false) (by exact decide_eq_false (by omega)) ?_)))))))
 refine oI rfl rfl (OL.nil (oH rfl ?_));refine AW.skip (AW.seq (AW.sg hE rfl (aF rfl (OL.nil (AW.block (AW.aY (α:=Nat) [(0,_),(1,_)] [] (λi=>[(5,.d (dI i))]) (λi=>[]) (λi=>i<=w.length) (λi=>w.length-i) 0 (.cons (di rfl) (.cons (di rfl) .nil)) .nil ⟨Nat.zero_le _,.dD,.nil⟩ ?_))))))
 rintro i h1
 have h1:i<=w.length:=h1;refine AW.seq (AW.sg hE rfl (aj rfl (aj rfl (fF sl.ints rfl rfl (bG rfl rfl rfl (OL.nil (AW.cond rfl (λh17=>?_) (λh17=>?_))))))))
 .try simp only[fD] at h17
  refine AW.skip (AW.seq (AW.block (AW.seq ?_)));have hx:=hw (w.getD i 0) (getD_mem (by omega) 0)
  refine AW.rg hE rfl (aj rfl (aj rfl (dR sl.ints 0 rfl rfl (by omega) rfl rfl (iE ce.int rfl (bG rfl rfl (c:=false) (by exact decide_eq_false (by omega)) (aj rfl (OL.yes rfl ?_)))))))
  refine aj rfl (OL.yes rfl (aj rfl (OL.yes rfl (dR sl.ints 0 rfl rfl (by omega) rfl rfl (OL.yes rfl (iE ce.int rfl (OL.yes rfl ?_)))))))
  refine aj rfl (OL.yes rfl (jI rfl rfl (c:=false) (by exact decide_eq_false (by omega)) (oI rfl rfl (OL.nil (oH rfl ?_)))))
  exact AW.skip (AW.rg hE rfl (aj rfl (aI rfl rfl (by omega) (aF rfl (OL.nil (AW.again (x:=i) (i+1) (by omega) ⟨by omega,Knows.app .iW .dD,.nil⟩))))))
 .try simp only[fD] at h17
  exact AW.exit (AW.sg hE rfl (aF rfl (OL.nil (AW.ret (aP.r ⟨_,.tmp rfl .nil,.le vR⟩)))))
theorem aU9 {n:Nat}(hn:n<=64):kU P F.Cm [kS,.d (dI n)] n T.aC 8 ((List.replicate n (0:Rat)).map dW):=by
 have hzl:(List.replicate n (0:Rat)).length=n:=List.length_replicate;refine kU.intro fn.Cm (by rfl) (by rfl) (ay (by rfl)) 4 rfl λE hE=>(AW.sg hE rfl (iO rfl rfl λb2=>(jK rfl (OL.nil (AW.sg hE rfl (jK rfl (OL.nil ?_)))))))
 refine AW.seq (AW.seq (AW.own 5 16 T.aC 8 rfl rfl (AW.rg hE rfl (aF rfl (OL.nil (AW.block ?_))))));refine AW.aY (α:=Nat × Nat × Nat) [(1,_),(2,_),(4,_)] [(2,_)] (λ(i,bq,cq)=>[(5,.bI 16 bq i cq),(6,.d (dI i))]) (λ(i,bq,cq)=>[(16,.row bq cq T.aC 8 (((List.replicate n (0:Rat)).take i).map dW))]) (λ(i,bq,cq)=>i<=n) (λ(i,bq,cq)=>n-i) (0,0,0) (.cons (di rfl) (.cons (iw rfl) (.cons (xK rfl) .nil))) (.cons (je rfl) .nil) ⟨Nat.zero_le _,.iW,.cons rfl .nil⟩ ?_
 rintro⟨i,bq,cq⟩ h1
 have h1:i<=n:=h1;refine AW.seq (AW.sg hE rfl (aj rfl (aj rfl (bG rfl rfl rfl (OL.nil (AW.cond rfl (λh9=>?_) (λh9=>?_)))))))
 .try simp only[fD] at h9
  refine AW.skip (AW.seq (AW.block (AW.rg hE rfl (iU rfl (aQ ag.Ring rfl rfl (vs:=[_,_]) rfl (ay rfl) (bH rfl vL (U4) (rF (y:=dW 0) sl.aW Nr rfl (by decide) ?_)))))))
  refine xZ sl.aW rfl rfl rfl (by rw[dA,List.length_take];omega) (VC.d _) (λy hy=>by rw[jJ hy];rfl) (by simp only[iY];omega) (by simp only[iY];omega) (.inr rfl) (ys:=((List.replicate n (0:Rat)).take (i+1)).map dW) (by rw[Zk (by omega),List.map_append];rfl) (n2:=i+1) rfl λb16 c16=>?_
  exact pV rfl (OL.nil (AW.rg hE rfl (aj rfl (aI rfl rfl (by omega) (aF rfl (OL.nil (AW.again (x:=(i,bq,cq)) (i+1,b16,c16) (by (simp only[];omega)) ⟨by omega,Knows.app .yU .iW,dL.app (.cons rfl .nil) (.cons rfl .nil)⟩)))))))
 .try simp only[fD] at h9
  refine AW.exit (AW.seq ?_);obtain rfl:i=n:=by omega
  have e9:(List.replicate i (0:Rat)).take i=List.replicate i 0:=List.take_of_length_le (by omega)
  exact AW.rg hE rfl (iU rfl (pV rfl (OL.nil (AW.ret ⟨.inr rfl,16,bq,cq,((List.replicate i (0:Rat)).take i).map dW,rfl,rfl,by rw[e9,dA];omega,by rw[e9];exact List.take_of_length_le (by rw[dA];omega)⟩))))
theorem af2 {a:Au}(f:Au.Wt a):ai P F.BU [yV a] (.d (dB true)):=by
 have e3:=f.wide.num;have e4:=tZ a.aN;have hfo:∀ x,x ∈ pX a.aN->x.f<a.st/\x.t<a.st/\1<=x.l/\x.l<=a.sym:=f.ok.form.arc;refine ai.intro fn.BU (by rfl) (by rfl) (ay (by rfl)) λE hE=>(AW.sg hE rfl (iO rfl rfl λb1=>(aF rfl (OL.nil (AW.sg hE rfl (bC fd.jE rfl rfl (aQ ag.Ring rfl rfl (vs:=[_,_]) rfl (ay rfl) ?_)))))))
 refine bC fd.gK rfl rfl (aG ce.dm rfl rfl rfl (bH rfl vL (aF4 (l:=a.aN) e3 f.wide.arc) (aF rfl (OL.nil (AW.seq (AW.sg hE rfl (aF rfl ?_)))))));refine OL.nil (AW.block (AW.aY (α:=Nat) [(3,_)] [] (λi=>[(4,.d (dI i))]) (λi=>[]) (λi=>i<=(pX a.aN).length) (λi=>(pX a.aN).length-i) 0 (.cons (di rfl) .nil) .nil ⟨Nat.zero_le _,.dD,.nil⟩ ?_))
 rintro i h1
 have h1:i<=(pX a.aN).length:=h1;refine AW.seq (AW.sg hE rfl (aj rfl (aj rfl (fF sl.dm rfl rfl (bG rfl rfl rfl (OL.nil (AW.cond rfl (λh13=>?_) (λh13=>?_))))))))
 .try simp only[fD] at h13
  refine AW.skip (AW.seq (AW.block (AW.seq ?_)));have hx:=(hfo ((pX a.aN).getD i default) (getD_mem (by omega) default)).2.2.1
  refine AW.rg hE rfl (aj rfl (aj rfl (dR sl.dm default rfl rfl (by omega) rfl rfl (Ov fd.DK rfl rfl (iE ce.int rfl (fG rfl rfl (c:=false) (by exact decide_eq_false (by omega)) (OL.nil ?_)))))))
  refine oH rfl ?_;exact AW.skip (AW.rg hE rfl (aj rfl (aI rfl rfl (by omega) (aF rfl (OL.nil (AW.again (x:=i) (i+1) (by omega) ⟨by omega,Knows.app .dD .dD,.nil⟩))))))
 .try simp only[fD] at h13
  exact AW.exit (AW.sg hE rfl (aF rfl (OL.nil (AW.ret (aP.r ⟨_,.tmp rfl .nil,.le vR⟩)))))
theorem aV1 {a:Au}{w:List Int}(f:Au.Wt a)(hw:iV a.sym w)(hl:w.length<=4):ai P F.BZ [yV a,.d (ints w)] (.d (dI 0)):=by
 have h0:=f.ok.Jl;have s2:=f.s2;refine ai.intro fn.BZ (by rfl) (by rfl) (ay (by rfl)) λE hE=>(AW.sg hE rfl (iO rfl rfl λb2=>(aF rfl (OL.nil (AW.seq (AW.block (AW.sg hE rfl ?_)))))))
 refine aQ ag.Auto rfl rfl (vs:=[_,_,_,_,_,_,_]) rfl (ay rfl) (bH rfl vL (U8 (a:=a) f.ok f.wide f.s2 f.st) (nt rfl (aF rfl (OL.nil (oH rfl ?_)))));refine AW.sg hE rfl (aQ ag.Auto rfl rfl (vs:=[_,_,_,_,_,_,_]) rfl (ay rfl) (bH rfl vL (af2 f) (nt rfl (aF rfl (OL.nil (oH rfl ?_))))));refine AW.sg hE rfl (aj rfl (bC fd.lX rfl rfl (aG ce.int rfl rfl rfl (bH rfl vL (aU8 (w:=w) (s:=a.sym) (by omega) hw (by omega)) (nt rfl (aF rfl (OL.nil ?_)))))))
 refine oH rfl ?_;exact AW.skip (AW.sg hE rfl (aF rfl (OL.nil (AW.ret (aP.r ⟨_,.tmp rfl .nil,.le vR⟩)))))
set_option maxRecDepth 8000 in
theorem bg2 {a:Au}{v:List Rat}{s:Nat}(f:Au.Wt a)(hv:v.length=a.st)(hz:∀ i,sz (v.getD i 0)<=33331):ai P F.EK [yV a,.d (qG v),.d (dI s)] (.d (qG (kJ a.st v s a.aN))):=by
 have e3:=f.wide.num;have s2:=f.st;refine ai.intro fn.EK (by rfl) (by rfl) (ay (by rfl)) λE hE=>(AW.sg hE rfl (iO rfl rfl λb3=>(jK rfl (OL.nil (AW.sg hE rfl (bC fd.jE rfl rfl (aQ ag.Ring rfl rfl (vs:=[_,_]) rfl (ay rfl) ?_)))))))
 refine bC fd.oz rfl rfl (aG ce.int rfl rfl rfl (clR rfl .iW (aU9 (n:=a.st) s2) rfl λb14 c14=>(pV rfl (OL.nil (AW.seq (AW.sg hE rfl (aF rfl ?_)))))));refine OL.nil (AW.block ?_);refine AW.aY (α:=Nat) [(1,_),(2,_),(3,_),(6,_),(7,_)] [(3,_)] (λi=>[(8,.d (dI i))]) (λi=>[(14,.row b14 c14 T.aC 8 ((kJ a.st v s (a.aN.take i)).map dW))]) (λi=>i<=a.aN.length) (λi=>a.aN.length-i) 0 (.cons (di rfl) (.cons (di rfl) (.cons (iw rfl) (.cons (xK rfl) (.cons (zA rfl) .nil))))) (.cons (je rfl) .nil) ⟨Nat.zero_le _,.dD,.cons rfl .nil⟩ ?_
 rintro i h1
 have h1:i<=a.aN.length:=h1;have hsl:(kJ a.st v s (a.aN.take i)).length=a.st:=xW;refine AW.seq (AW.sg hE rfl (aj rfl (bC fd.gK rfl rfl (aG ce.dm rfl rfl rfl (fF sl.dm rfl rfl (bG rfl rfl rfl (OL.nil ?_)))))));refine AW.cond rfl (λh19=>?_) (λh19=>?_)
 .try simp only[fD] at h19
  refine AW.skip (AW.seq (AW.block (AW.seq ?_)));have hm:=getD_mem (l:=a.aN) (i:=i) (by omega) default
  obtain⟨hx1,hx2,hx3,hx4⟩:=f.ok.arc (a.aN.getD i default) hm;have hxz:=f.sz.arc (a.aN.getD i default) hm;have hz1:=hz (a.aN.getD i default).f;have hz2:=JA f (i:=i) (j:=(a.aN.getD i default).t) (s:=s) hz;have hz3:=lu (v.getD (a.aN.getD i default).f 0) (a.aN.getD i default).q;refine AW.rg hE rfl (bC fd.gK rfl rfl (aG ce.dm rfl rfl rfl (aj rfl (dR sl.dm default rfl rfl (by omega) rfl rfl (iD ag.mX rfl (vs:=[_,_,_,_,_,_,_,_,_,_,_]) rfl (ay rfl) (al z.mX rfl λb9=>(fA sz.mX rfl rfl rfl rfl rfl (ay rfl) (cells2:=[_,_,_,_,_,_,_,_,_,_,_]) rfl ?_)))))))
  refine OL.nil (AW.sg hE rfl (bC fd.DK rfl rfl (aG ce.int rfl rfl rfl (aj rfl (fG rfl rfl rfl (OL.split 30 rfl (λhc=>?_) (λhc=>?_)))))))
  .have hc:(a.aN.getD i default).l=s:=by have:=lK hc;omega
   refine OL.nil (Hr rfl ?_);refine AW.dg 1 [0,1,2,3,4,5,6,7,8,9,10,11,12,13,14,15,16,17,18,19,20,21,22] ak hE rfl (by kernel_rfl) (OI.aK (os:=[_,_,_,_,_,_,_,_,_,_,_,_,_,_,_,_,_,_,_,_,_,_,_]) rfl ?_)
   refine iU rfl (bC fd.Fh rfl rfl (aG ce.int rfl rfl rfl (bC fd.jE rfl rfl (aQ ag.Ring rfl rfl (vs:=[_,_]) rfl (ay rfl) (iU rfl (bC fd.Fh rfl rfl (aG ce.int rfl rfl rfl ?_)))))));refine jv sl.aW rfl rfl (by omega) ?_
   refine Ht ag.aC (by decide) rfl rfl (aU2 (show (a.aN.getD i default).t<(kJ a.st v s (a.aN.take i)).length by omega)) (vs:=[.d (dB (fZ ((kJ a.st v s (a.aN.take i)).getD (a.aN.getD i default).t 0)).neg),.d (aH (fZ ((kJ a.st v s (a.aN.take i)).getD (a.aN.getD i default).t 0)).num),.d (aH (fZ ((kJ a.st v s (a.aN.take i)).getD (a.aN.getD i default).t 0)).den),.d (dI 0),.d (dB false),.d (dU 0),.d (.sl []),.d (.sl [])]) rfl (ay rfl) ?_
   refine bC fd.jE rfl rfl (aQ ag.Ring rfl rfl (vs:=[_,_]) rfl (ay rfl) (aj rfl (bC fd.Ib rfl rfl (aG ce.int rfl rfl rfl (dR sl.aW 0 rfl rfl (by omega) rfl rfl (iD ag.aC rfl (vs:=[_,_,_,_,_,_,_,_]) rfl (ay rfl) (bC fd.rC rfl rfl ?_)))))))
   refine aQ ag.aC rfl rfl (vs:=[_,_,_,_,_,_,_,_]) rfl (ay rfl) (bH rfl vL (af0 (p:=v.getD (a.aN.getD i default).f 0) (q:=(a.aN.getD i default).q) (by omega) (by omega)) (bH rfl vL (Zi (p:=(kJ a.st v s (a.aN.take i)).getD (a.aN.getD i default).t 0) (q:=v.getD (a.aN.getD i default).f 0*(a.aN.getD i default).q) (by omega) (by omega)) (jv sl.aW rfl rfl (by omega) ?_)))
   refine LQ sz.aC rfl (d:=dW ((kJ a.st v s (a.aN.take i)).getD (a.aN.getD i default).t 0+v.getD (a.aN.getD i default).f 0*(a.aN.getD i default).q)) Nr rfl rfl (by rw[dA];omega) (es2:=((kJ a.st v s (a.aN.take i)).set (a.aN.getD i default).t ((kJ a.st v s (a.aN.take i)).getD (a.aN.getD i default).t 0+v.getD (a.aN.getD i default).f 0*(a.aN.getD i default).q)).map dW) (by rw[List.map_set]) ?_
   refine OL.nil (AW.rg hE rfl (aj rfl (aI rfl rfl (by omega) (aF rfl (OL.nil ?_)))))
   exact AW.again (x:=i) (i+1) (by omega) ⟨by omega,Knows.app .Ky .dD,dL.app (.cons rfl .nil) (.cons (by rw[Fa (by omega),aF9 hc];rfl) .nil)⟩
  .have hc:¬ (a.aN.getD i default).l=s:=by have:=nZ hc;omega
   refine OL.nil (oH rfl ?_);refine AW.skip (AW.rg hE rfl (aj rfl (aI rfl rfl (by omega) (aF rfl (OL.nil ?_)))))
   exact AW.again (x:=i) (i+1) (by omega) ⟨by omega,Knows.app .Ky .dD,dL.app (.cons rfl .nil) (.cons (by rw[Fa (by omega),aG0 hc];rfl) .nil)⟩
 .try simp only[fD] at h19
  refine AW.exit (AW.seq ?_);obtain rfl:i=a.aN.length:=by omega
  exact AW.rg hE rfl (iU rfl (pV rfl (OL.nil (AW.ret (aP.r ⟨_,.tmp rfl .nil,RO.all rfl rfl (by rw[dA,xW]) (by rw[List.take_length])⟩)))))
theorem an5 {a:Au}{w:List Int}(f:Au.Wt a)(hw:iV a.sym w)(hl:w.length<=4):ai P F.yg [yV a,.d (ints w)] (.mM [.d (qG (vY a w)),.d (dI 0)]):=by
 have h0:=f.ok.Jl;refine ai.intro fn.yg (by rfl) (by rfl) (ay (by rfl)) λE hE=>(AW.sg hE rfl (iO rfl rfl λb2=>(jK rfl (aF rfl (OL.nil (AW.seq (AW.sg hE rfl ?_)))))))
 refine aQ ag.Auto rfl rfl (vs:=[_,_,_,_,_,_,_]) rfl (ay rfl) (aj rfl (bH rfl vL (aV1 f hw hl) (aF rfl (OL.nil (AW.sg hE rfl (aj rfl (eX rfl rfl (c:=false) (by exact kY (by omega)) ?_)))))))
 refine OL.nil (oH rfl ?_);refine AW.skip (AW.sg hE rfl (aQ ag.Auto rfl rfl (vs:=[_,_,_,_,_,_,_]) rfl (ay rfl) (bH rfl vL (Lp (a:=a) f.ok f.wide f.st) (fdC fc.qW rfl rfl (aF rfl (OL.nil (AW.seq ?_)))))));refine AW.sg hE rfl (aF rfl (OL.nil (AW.block ?_)));refine AW.aY (α:=Nat) [(1,_),(2,_),(4,_),(5,_)] [(2,_)] (λi=>[(7,.d (qG (vY a (w.take i)))),(8,.d (dI i))]) (λi=>[]) (λi=>i<=w.length) (λi=>w.length-i) 0 (.cons (di rfl) (.cons (iw rfl) (.cons (xK rfl) (.cons (di rfl) .nil)))) (.cons (je rfl) .nil) ⟨Nat.zero_le _,.iW,.nil⟩ ?_
 rintro i h1
 have h1:i<=w.length:=h1;have hfz:∀ j,sz ((vY a (w.take i)).getD j 0)<=33331:=λj=>Nat.le_trans (Y9 f.ok f.sz w i h1 j) (aZ5 (by omega))
 refine AW.seq (AW.sg hE rfl (aj rfl (aj rfl (fF sl.ints rfl rfl (bG rfl rfl rfl (OL.nil (AW.cond rfl (λh21=>?_) (λh21=>?_))))))))
 .try simp only[fD] at h21
  refine AW.skip (AW.seq (AW.block ?_));have hx:=hw (w.getD i 0) (getD_mem (by omega) 0)
  refine AW.dg 1 [0,1,2,3,4,5,6,7] ak hE rfl (by kernel_rfl) (OI.aK (os:=[_,_,_,_,_,_,_,_]) rfl ?_)
  refine aQ ag.Auto rfl rfl (vs:=[_,_,_,_,_,_,_]) rfl (ay rfl) (aj rfl (aj rfl (aj rfl (dR sl.ints 0 rfl rfl (by omega) rfl rfl (iE ce.int rfl (bH rfl (.cons vR (.cons vR (.cons (bW.int (by omega)) .nil))) (bg2 (a:=a) (v:=vY a (w.take i)) (s:=(w.getD i 0).toNat) f (NQ f.ok _) hfz) (aF rfl ?_)))))))
  refine OL.nil (AW.rg hE rfl (aj rfl (aI rfl rfl (by omega) (aF rfl (OL.nil ?_)))))
  exact AW.again (x:=i) (i+1) (by omega) ⟨by omega,Knows.app .LV (.cons (by rw[Qc (by omega)];exact bW.refl _) .dD),dL.app (.cons rfl .nil) (.nil)⟩
 .try simp only[fD] at h21
  refine AW.exit (AW.seq ?_);obtain rfl:i=w.length:=by omega
  exact AW.rg hE rfl (aj rfl (aF rfl (aF rfl (OL.nil (AW.ret (aP.r ⟨_,.tmp rfl (.tmp rfl .nil),_,.cons (.le (by rw[List.take_length];exact bW.refl _)) (.cons (.le vR) .nil),rfl⟩))))))
theorem bs1 {v u:List Rat}{n:Nat}(hv:v.length=n)(hu:u.length=n)(hn:n<=64)(zv:∀ i,sz (v.getD i 0)<=33331)(zu:∀ i,sz (u.getD i 0)<=1):ai P F.GH [kS,.d (qG v),.d (qG u)] (vW (Ld v u n)):=by
 refine ai.intro fn.GH (by rfl) (by rfl) (ay (by rfl)) λE hE=>(AW.sg hE rfl (iO rfl rfl λb3=>(al z.aC rfl λb6=>(OL.nil (AW.sg hE rfl (aQ ag.Ring rfl rfl (vs:=[_,_]) rfl (ay rfl) (bH rfl vL (U4) ?_)))))))
 refine al z.aC rfl λb7=>(fA sz.aC rfl rfl rfl rfl rfl (ay rfl) (cells2:=[_,_,_,_,_,_,_,_]) rfl (OL.nil (AW.seq (AW.sg hE rfl (aF rfl (OL.nil (AW.block ?_)))))));refine AW.aY (α:=Nat) [(1,_),(2,_),(3,_),(6,_),(7,_)] [(3,_),(6,_)] (λi=>[(8,.d (dI i))]) (λi=>[(7,.box b7 T.aC [.d (dB (fZ (Ld v u i)).neg),.d (aH (fZ (Ld v u i)).num),.d (aH (fZ (Ld v u i)).den),.d (dI 0),.d (dB false),.d (dU 0),.d (.sl []),.d (.sl [])])]) (λi=>i<=n) (λi=>n-i) 0 (.cons (di rfl) (.cons (di rfl) (.cons (iw rfl) (.cons (iw rfl) (.cons (iw rfl) .nil))))) (.cons (je rfl) (.cons (je rfl) .nil)) ⟨Nat.zero_le _,.dD,.cons rfl .nil⟩ ?_
 rintro i h1
 have h1:i<=n:=h1;have z1:=zv i;have z2:=zu i;have z3:=lu (v.getD i 0) (u.getD i 0);have z4:=aU7 (i:=i) zv zu;refine AW.seq (AW.sg hE rfl (aj rfl (aj rfl (fF sl.aW rfl rfl (bG rfl rfl rfl (OL.split 14 rfl (λha=>?_) (λha=>?_)))))))
 .have ha:i<n:=by have:=lK ha;simp at this;omega
  refine aj rfl (OL.yes rfl (aj rfl (OL.yes rfl (aj rfl (OL.yes rfl (fF sl.aW rfl rfl (OL.yes rfl ?_)))))));refine bG rfl rfl (c:=true) (decide_eq_true (by omega)) (oK rfl rfl (OL.nil (Hr rfl ?_)))
  refine AW.skip (AW.seq (AW.block (AW.dg 1 [0,1,2,3,4,5,6,7,8,9,10,11,12,13] ak hE rfl (by kernel_rfl) (OI.aK (os:=[_,_,_,_,_,_,_,_,_,_,_,_,_,_]) rfl ?_))))
  refine aQ ag.Ring rfl rfl (vs:=[_,_]) rfl (ay rfl) (aQ ag.aC rfl rfl (vs:=[_,_,_,_,_,_,_,_]) rfl (ay rfl) (aQ ag.Ring rfl rfl (vs:=[_,_]) rfl (ay rfl) (aj rfl (aj rfl (dR sl.aW 0 rfl rfl (by omega) rfl rfl (iD ag.aC rfl (vs:=[_,_,_,_,_,_,_,_]) rfl (ay rfl) (aj rfl ?_)))))))
  refine aj rfl (dR sl.aW 0 rfl rfl (by omega) rfl rfl (iD ag.aC rfl (vs:=[_,_,_,_,_,_,_,_]) rfl (ay rfl) (bH rfl vL (af0 (p:=v.getD i 0) (q:=u.getD i 0) (by omega) (by omega)) (bH rfl vL (Zi (p:=(Ld v u i)) (q:=v.getD i 0*u.getD i 0) (by omega) (by omega)) (fA sz.aC rfl rfl rfl rfl rfl (ay rfl) (cells2:=[_,_,_,_,_,_,_,_]) rfl (OL.nil (AW.rg hE rfl ?_)))))))
  exact aj rfl (aI rfl rfl (by omega) (aF rfl (OL.nil (AW.again (x:=i) (i+1) (by omega) ⟨by omega,Knows.app .Ky .dD,dL.app (.cons rfl (.cons rfl .nil)) (.cons rfl .nil)⟩))))
 .have ha:¬ i<n:=by have:=nZ ha;simp at this;omega
  obtain rfl:i=n:=by omega
  refine aj rfl (OL.nd rfl (OL.nd rfl (OL.nd rfl (OL.nd rfl (oI rfl rfl (OL.nil (oH rfl ?_)))))));refine AW.exit (AW.sg hE rfl (aQ ag.aC rfl rfl (vs:=[_,_,_,_,_,_,_,_]) rfl (ay rfl) (fA sz.aC rfl rfl rfl rfl rfl (ay rfl) (cells2:=[_,_,_,_,_,_,_,_]) rfl (OL.nil ?_))));exact AW.ret (aP.r ⟨_,.dN rfl rfl ag.aC (ay rfl) .nil,.ag (.cons (.le vR) (.cons (.le vR) (.cons (.le vR) (.cons (.le vR) (.cons (.le vR) (.cons (.le vR) (.cons (.le vR) (.cons (.le vR) .nil))))))))⟩)
theorem aG1 {a:Au}{w:List Int}(f:Au.Wt a)(hw:iV a.sym w)(hl:w.length<=4):ai P F.zF [yV a,.d (ints w)] (.mM [vW (xA a w),.d (dI 0)]):=by
 have hfz:∀ j,sz ((vY a w).getD j 0)<=33331:=λj=>by
   have h:=Y9 f.ok f.sz w w.length (Nat.le_refl _) j;rw[List.take_length] at h;exact Nat.le_trans h (aZ5 hl)
 refine ai.intro fn.zF (by rfl) (by rfl) (ay (by rfl)) λE hE=>(AW.sg hE rfl (iO rfl rfl λb2=>(al z.aC rfl λb4=>(aF rfl (OL.nil (AW.sg hE rfl (aQ ag.Auto rfl rfl (vs:=[_,_,_,_,_,_,_]) rfl (ay rfl) ?_)))))))
 refine aj rfl (bH rfl vL (an5 f hw hl) (Di rfl (ex rfl rfl (ex rfl rfl (aF rfl (aF rfl (OL.nil ?_)))))));refine AW.seq (AW.sg hE rfl (aj rfl (eX rfl rfl (c:=false) (by exact kY (by omega)) (OL.nil (oH rfl ?_)))))
 refine AW.skip (AW.sg hE rfl (bC fd.jE rfl rfl (aQ ag.Ring rfl rfl (vs:=[_,_]) rfl (ay rfl) (aj rfl (bC fd.uw rfl rfl (aG ce.aW rfl rfl rfl (bH rfl vL (bs1 (v:=vY a w) (u:=a.fin) (n:=a.st) (NQ f.ok w) f.ok.fin f.st hfz (λi=>Tn f.sz.fin (Nat.le_refl _) i)) ?_)))))));rw[aD6 f.ok hw];refine fA sz.aC rfl rfl rfl rfl rfl (ay rfl) (cells2:=[_,_,_,_,_,_,_,_]) rfl (aF rfl (OL.nil ?_));exact AW.ret (aP.r ⟨_,.dN rfl rfl ag.aC (ay rfl) (.tmp rfl .nil),_,.cons (.ag (.cons (.le vR) (.cons (.le vR) (.cons (.le vR) (.cons (.le vR) (.cons (.le vR) (.cons (.le vR) (.cons (.le vR) (.cons (.le vR) .nil))))))))) (.cons (.le vR) .nil),rfl⟩)
end Go.Proofs.YtanlenlmihoiiaaGreatDoor
namespace Go.AL
open Go Go.BigFrame
def Mem.joined (M N:Mem):Mem:=λid=>if (N id).isSome then N id else M id
section
variable {P:Program}{E:Env}{K:S->Prop}{s:S}{ty:Nat}{pos:String}{after:Array Edge}
theorem After.joined {F F':Hp}{w w':World}{M N:Mem}(h:xw F M w)(ha:After F jH w F' N w'):After F M w F' (M.joined N) w':=by
 have part:∀ id blk,(M.joined N) id=some blk->N id=some blk \/ (N id=Option.none/\M id=some blk):=λid blk hm=>by
  unfold Mem.joined at hm;cases hq:N id with
  | none=>simp[hq] at hm;exact .inr ⟨rfl,hm⟩
  | some b=>simp[hq] at hm;exact .inl (by rw[<- hm])
 have far:∀ id blk k,M id=some blk->blk.owns k->k<w.heap.size:=λid blk k hm ho=>(h.own id blk hm).lt ho;have new:∀ id blk k,N id=some blk->blk.owns k->w.heap.size<=k:=λid blk k hm ho=>(ha.jZ k ⟨id,blk,hm,ho⟩).resolve_right (iI k);refine⟨ha.grow.mono λi x=>absurd x (iI i),ha.le,⟨ha.gX.sF,λid blk hm=>?_,λid blk k hm ho=>?_,λi j bi bj k hi hj ki kj=>?_⟩,λk p q=>.inl ((ha.new k p q).resolve_right (iI k)),λk ⟨id,blk,hm,ho⟩=>?_⟩
 .rcases part id blk hm with hm|⟨_,hm⟩
  .exact ha.gX.own id blk hm
  .exact (h.own id blk hm).keep ha.le λk ho=>ha.grow.block k (far id blk k hm ho) (iI k)
 .rcases part id blk hm with hm|⟨_,hm⟩
  .exact ha.gX.apart id blk k hm ho
  .cases hf:F' k with
   | none=>rfl
   | some o =>
    have h1:=far id blk k hm ho;have h2:=(ha.new k (h.apart id blk k hm ho) (by rw[hf];simp)).resolve_right (iI k)
    omega
 .rcases part i bi hi with hi|⟨ni,hi⟩ <;> rcases part j bj hj with hj|⟨nj,hj⟩
  .exact ha.gX.inj i j bi bj k hi hj ki kj
  .have:=new i bi k hi ki;have:=far j bj k hj kj;omega
  .have:=far i bi k hi ki;have:=new j bj k hj kj;omega
  .exact h.inj i j bi bj k hi hj ki kj
 .rcases part id blk hm with hm|⟨_,hm⟩
  .exact .inl (new id blk k hm ho)
  .exact .inr ⟨id,blk,hm,ho⟩
theorem SO.Xx {α:Type}{f:Operand}{args:Array Operand}{ats:Array TypeId}{mO:Nat}{caps args':List V}{Mk:α->Mem}{res:α->V}{φ:α->Prop}{dst:Option Nat}{g:Option (Nat × Bool)}(hd:oV E.n dst)
  (hf:s.ev f=.fn mO caps) (ha:fK (args.toList.map s.ev++caps) args') (hs:jA P mO args' jH res Mk φ)
  (h:∀ x,φ x->K ((⟨s.ρ,s.M.joined (Mk x)⟩:S).put dst (res x))):SO P E ⟨dst,.call { callee:=.value f,args:=args,argTypes:=ats },ty,pos,after,g⟩ K s:=λF a w hr=>by
 have hf':=hr.eval f;rw[hf] at hf';generalize Ya:a.eval f=af at hf';cases hf' with
 | @fn _ us _ hl hrr =>
  have hvs:lG F (args.toList.map a.eval++us) args':=qH (vH (mQ hr.eval _) ⟨hl,hrr⟩) ha;have hcc:=hs.2 F w _ (Dl hr.gX.sF) hvs;unfold execOp;have e1:(args.map a.eval++us.toArray)=(args.toList.map a.eval++us).toArray:=by simp
  simp only[resolve,Ya,Deferred.ofValue,Sem.run_bind,Sem.run_pure,Result.andThen_ok,invoke,Array.empty_append,e1,lH hs.1];refine hcc.mono λe2 w' ⟨x,hφ,v,F',he,hA,hv⟩=>?_;exact⟨v,he,F',_,hr.mV (dst:=dst) (After.joined hr.gX hA) hd (v:=res x) hv,h x hφ⟩
end
theorem ai.read {P:Program}{f id b c e sz:Nat}{es:List D}{args qY:List V}{x:Value}(h:ai P f args (.d (.sc x)))(ha:fK (qY.map (V.Vr id b c es)) args) :
  gq P f qY (mem1 id (.row b c e sz es)) (.d (.sc x)) (mem1 id (.row b c e sz es)) :=
 ⟨h.1,λF w vals hS hv=>by
  obtain⟨F',h1,h2,h3,h4⟩:=xF hS (Gz id (.row b c e sz es));have hv':lG F' vals args:=qH ⟨by rw[hv.1,dA],λi y u hy hu=>by
   rw[List.getElem?_map] at hy;cases hq:qY[i]? with
   | none=>rw[hq] at hy;cases hy
   | some z=>rw[hq] at hy;cases hy;exact V.Jc h1 h4 (hv.2 i z u hq hu)⟩ ha
  refine (h.2 F' w vals h2.sF hv').mono λe2 w' ⟨v,F'',he,hx,hr⟩=>⟨v,F,he,⟨hx.grow.mono λi k=>k.elim,Hp.le.refl _,⟨λk o hk=>hx.sF k o (hx.le k o (h1 k o hk)),λj blk hm=>?_,hS.apart,hS.inj⟩,λk p q=>absurd p q,λk k2=>.inr k2⟩,?_⟩
  .refine (hS.own j blk hm).keep (Hp.le.refl _) λk ho=>hx.grow.block k ((hS.own j blk hm).lt ho) λq=>q
  .cases hr with
   | d hd ho=>cases hd with
    | sc hs=>exact .d (.sc hs) ho⟩

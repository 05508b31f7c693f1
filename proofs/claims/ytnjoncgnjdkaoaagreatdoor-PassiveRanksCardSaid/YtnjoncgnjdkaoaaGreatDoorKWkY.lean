/-
  Walks of layers 5 and 8 of the specification: words, weights of words (printed by mk2.py).
-/
import Derived.Test.YtnjoncgnjdkaoaaGreatDoorKPvD
set_option maxHeartbeats 1600000
set_option linter.unusedVariables false
set_option linter.unusedSimpArgs false
namespace Go.Proofs.YtnjoncgnjdkaoaaGreatDoor
open Go Go.AL
abbrev o8 (b:Nat)(L:List Int)(a:Nat):iF:=.box b T.Tape [.d (ints L),.d (dI a)]
theorem jA {v m:Int}(hm:1<=m/\m<=4611686018427387904):aj P F.jA [.d (dI v),.d (dI m)] (.d (dI (within v m))):=by
 refine aj.intro fn.jA (by rfl) (by rfl) (aA (by rfl)) λE hE=>(AW.sg hE rfl (aC rfl (OL.nil (AW.seq (AW.sg hE rfl (ai rfl (aX rfl rfl rfl ?_)))))))
 refine OL.nil (AW.cond rfl (λhno=>absurd hno (by simp;omega)) (λ_=>?_))
 refine AW.skip (AW.sg hE rfl (ai rfl (ai rfl (bo rfl rfl (aU8 (by omega)) ?_))))
 have ht:=tmod_lt (v:=v) hm.1;refine aC rfl (OL.nil (AW.seq (AW.sg hE rfl (ai rfl (aX rfl rfl rfl (OL.nil (AW.cond rfl (λh=>?_) (λh=>?_))))))))
 .try simp only[eG] at h
  refine AW.rg hE rfl (ai rfl (ai rfl (aH rfl rfl (by omega) (aC rfl (OL.nil (AW.sg hE rfl (ai rfl ?_)))))))
  exact aC rfl (OL.nil (AW.ret (aO.r ⟨_,.tmp rfl .nil,.le (bG.int (VS hm.1 h))⟩)))
 .try simp only[eG] at h
  exact AW.skip (AW.sg hE rfl (ai rfl (aC rfl (OL.nil (AW.ret (aO.r ⟨_,.tmp rfl .nil,.le (bG.int (VR hm.1 h))⟩))))))
theorem wB {L:List Int}{a b:Nat}{m:Int}(hm:1<=m/\m<=4611686018427387904)(nL:L.length<=9223372036854775807):eF P F.sV [.ptr 1000 b 0,.d (dI m)] (mem1 1000 (o8 b L a)) (.d (dI (vG L a m))) (mem1 1000 (o8 b L (jl L a))):=by
 refine eF.intro fn.sV (by rfl) (by rfl) (aA (by rfl)) λE hE=>(AW.sg hE rfl (aC rfl (OL.nil (AW.seq (AW.seq (AW.dg 1 [0,1,2,3,4,5,6,7,8,9] au hE rfl (by kernel_rfl) (OI.aS (os:=[_,_,_,_,_,_,_,_,_,_]) rfl ?_)))))))
 refine DL rfl (N7 rfl (aV fd.Lu rfl rfl (aG ce.int rfl rfl rfl (DL rfl (N7 rfl (aV fd.VZ rfl rfl (aG ce.ints rfl rfl rfl ?_)))))));refine fJ sl.ints rfl rfl (ql rfl rfl rfl (OL.nil (AW.cond rfl (λh=>?_) (λh=>?_))))
 .have h:=kK h;rw[show vG L a m=0 from if_pos (by omega),show jl L a=a from if_pos (by omega)]
  exact AW.sg hE rfl (aC rfl (OL.nil (AW.ret ⟨⟨_,.tmp rfl .nil,.le vR⟩,bP rfl⟩)))
 .have h:=lD h;rw[show vG L a m=within (L.getD a 0) m from if_neg (by omega),show jl L a=a+1 from if_neg (by omega)]
  refine AW.skip (AW.sg hE rfl (DL rfl (N7 rfl (aV fd.Lu rfl rfl (aG ce.int rfl rfl rfl (aH rfl rfl (by omega) (N7 rfl ?_)))))))
  refine aV fd.Lu rfl rfl (fG sz.int rfl rfl rfl rfl rfl (aA rfl) rfl (OL.nil (AW.seq (AW.dg 1 [0,1,2,3,4,5,6,7,8,9,10,11,12,13] au hE rfl (by kernel_rfl) (OI.aS (os:=[_,_,_,_,_,_,_,_,_,_,_,_,_,_]) rfl ?_)))))
  refine DL rfl (N7 rfl (aV fd.VZ rfl rfl (aG ce.ints rfl rfl rfl (DL rfl (N7 rfl (aV fd.Lu rfl rfl (aG ce.int rfl rfl rfl ?_)))))));exact gu rfl rfl (by omega) (QS a sl.ints 0 rfl rfl (by omega) (by omega) rfl rfl (iE ce.int rfl (ai rfl (bF rfl .gy (jA (by assumption)) (aC rfl (OL.nil (AW.ret ⟨⟨_,.tmp rfl .nil,.le vR⟩,bP rfl⟩)))))))
theorem U6 {l:List Int}:∀ y,y ∈ l.map dI->y.cells.length=1:=λy hy=>by obtain⟨a,_,rfl⟩:=jY hy;rfl
theorem WS {n i:Nat}(h:i<n):(List.replicate n (0:Rat)).take (i+1)=(List.replicate n (0:Rat)).take i++[0]:=by
 rw[List.take_replicate,List.take_replicate,Nat.min_eq_left h,Nat.min_eq_left (Nat.le_of_lt h),List.replicate_succ']
theorem aE4 {v w:List Rat}{B i:Nat}(hv:∀ i,sz (v.getD i 0)<=B)(hw:∀ i,sz (w.getD i 0)<=6):sz (zH v w i)<=1+i*(B+6+1):=LZ i λj _=>by
 have:=lU (v.getD j 0) (w.getD j 0);have:=hv j;have:=hw j;omega
structure Au.Wt (a:Au):Prop where
 ok:a.Ok
 sz:a.Sz 6 20
 s2:a.sym<=32
 st:a.st<=64
theorem Au.Wt.wide {a:Au}(f:Au.Wt a):a.Sz 134217728 20:=f.sz.up (by decide) (Nat.le_refl _)
theorem Hq {a:Au}(f:Au.Wt a){v:List Rat}{B s i j:Nat}(hv:∀ i,sz (v.getD i 0)<=B):sz ((gQ a.st v s (a.aP.take i)).getD j 0)<=20*(B+7)+1:=by
 have h2:(a.aP.take i).length<=a.aP.length:=by rw[List.length_take];exact Nat.min_le_right ..
 exact Uu hv (λx hx=>⟨(f.ok.arc x (List.mem_of_mem_take hx)).2.1,f.sz.arc x (List.mem_of_mem_take hx)⟩) (Nat.le_trans h2 f.sz.num)
theorem ap2 {v out:List Rat}{s:Nat}{x:bD}(h:x.l=s):Nh v s out x=out.set x.t (out.getD x.t 0+v.getD x.f 0*x.q):=if_pos h
theorem ap3 {v out:List Rat}{s:Nat}{x:bD}(h:¬ x.l=s):Nh v s out x=out:=if_neg h
theorem aE5 {w:List Int}{s:Nat}(hs:1<=s/\s<=32)(hw:iV s w)(hl:w.length<=256):aj P F.Ai [.d (ints w),.d (dI s)] (.d (dB true)):=by
 refine aj.intro fn.Ai (by rfl) (by rfl) (aA (by rfl)) λE hE=>(AW.sg hE rfl (aC rfl (OL.nil (AW.seq (AW.sg hE rfl (ai rfl (bF rfl vL (Yh (s:=s) hs) ?_)))))))
 refine nt rfl (ai rfl (OL.yes rfl (ai rfl (OL.yes rfl (fJ sl.ints rfl rfl (OL.yes rfl (gV rfl rfl (c:=false) (by exact decide_eq_false (by omega)) ?_)))))))
 refine jZ rfl rfl (OL.nil (oz rfl ?_));refine AW.skip (AW.seq (AW.sg hE rfl (aC rfl (OL.nil (AW.block (AW.aU (α:=Nat) [(0,_),(1,_)] [] (λi=>[(5,.d (dI i))]) (λi=>[]) (λi=>i<=w.length) (λi=>w.length-i) 0 (.cons (bY rfl) (.cons (bY rfl) .nil)) .nil ⟨Nat.zero_le _,.di,.nil⟩ ?_))))))
 rintro i h1
 have h1:i<=w.length:=h1;refine AW.seq (AW.sg hE rfl (ai rfl (ai rfl (fJ sl.ints rfl rfl (aX rfl rfl rfl (OL.nil (AW.cond rfl (λh17=>?_) (λh17=>?_))))))))
 .try simp only[eG] at h17
  refine AW.skip (AW.seq (AW.block (AW.seq ?_)));have hx:=hw (w.getD i 0) (getD_mem (by omega) 0)
  refine AW.rg hE rfl (ai rfl (ai rfl (fM sl.ints 0 rfl rfl (by omega) rfl rfl (iE ce.int rfl (aX rfl rfl (c:=false) (by exact decide_eq_false (by omega)) (ai rfl (OL.yes rfl ?_)))))))
  refine ai rfl (OL.yes rfl (ai rfl (OL.yes rfl (fM sl.ints 0 rfl rfl (by omega) rfl rfl (OL.yes rfl (iE ce.int rfl (OL.yes rfl ?_)))))))
  refine ai rfl (OL.yes rfl (gV rfl rfl (c:=false) (by exact decide_eq_false (by omega)) (jZ rfl rfl (OL.nil (oz rfl ?_)))))
  exact AW.skip (AW.rg hE rfl (ai rfl (aH rfl rfl (by omega) (aC rfl (OL.nil (AW.again (x:=i) (i+1) (by omega) ⟨by omega,Knows.app .gy .di,.nil⟩))))))
 .try simp only[eG] at h17
  exact AW.exit (AW.sg hE rfl (aC rfl (OL.nil (AW.ret (aO.r ⟨_,.tmp rfl .nil,.le vR⟩)))))
theorem aE6 {n:Nat}(hn:n<=64):iR P F.Aj [lN,.d (dI n)] n T.ak 8 ((List.replicate n (0:Rat)).map dW):=by
 have hzl:(List.replicate n (0:Rat)).length=n:=List.length_replicate;refine iR.intro fn.Aj (by rfl) (by rfl) (aA (by rfl)) 4 rfl λE hE=>(AW.sg hE rfl (gW rfl rfl λb2=>(jg rfl (OL.nil (AW.sg hE rfl (jg rfl (OL.nil ?_)))))))
 refine AW.seq (AW.seq (AW.own 5 16 T.ak 8 rfl rfl (AW.rg hE rfl (aC rfl (OL.nil (AW.block ?_))))));refine AW.aU (α:=Nat × Nat × Nat) [(1,_),(2,_),(4,_)] [(2,_)] (λ(i,bq,cq)=>[(5,.bH 16 bq i cq),(6,.d (dI i))]) (λ(i,bq,cq)=>[(16,.row bq cq T.ak 8 (((List.replicate n (0:Rat)).take i).map dW))]) (λ(i,bq,cq)=>i<=n) (λ(i,bq,cq)=>n-i) (0,0,0) (.cons (bY rfl) (.cons (iJ rfl) (.cons (AO rfl) .nil))) (.cons (kC rfl) .nil) ⟨Nat.zero_le _,.gy,.cons rfl .nil⟩ ?_
 rintro⟨i,bq,cq⟩ h1
 have h1:i<=n:=h1;refine AW.seq (AW.sg hE rfl (ai rfl (ai rfl (aX rfl rfl rfl (OL.nil (AW.cond rfl (λh9=>?_) (λh9=>?_)))))))
 .try simp only[eG] at h9
  refine AW.skip (AW.seq (AW.block (AW.rg hE rfl (gU rfl (aN ag.Ring rfl rfl (vs:=[_,_]) rfl (aA rfl) (bF rfl vL (NP) (xe (y:=dW 0) sl.aT MR rfl (by decide) ?_)))))))
  refine zB sl.aT rfl rfl rfl (by rw[dD,List.length_take];omega) (VC.d _) (λy hy=>by rw[kJ hy];rfl) (by simp only[jL];omega) (by simp only[jL];omega) (.inr rfl) (ys:=((List.replicate n (0:Rat)).take (i+1)).map dW) (by rw[WS (by omega),List.map_append];rfl) (n2:=i+1) rfl λb16 c16=>?_
  exact oC rfl (OL.nil (AW.rg hE rfl (ai rfl (aH rfl rfl (by omega) (aC rfl (OL.nil (AW.again (x:=(i,bq,cq)) (i+1,b16,c16) (by (simp only[];omega)) ⟨by omega,Knows.app .xf .gy,dw.app (.cons rfl .nil) (.cons rfl .nil)⟩)))))))
 .try simp only[eG] at h9
  refine AW.exit (AW.seq ?_);obtain rfl:i=n:=by omega
  have e9:(List.replicate i (0:Rat)).take i=List.replicate i 0:=List.take_of_length_le (by omega)
  exact AW.rg hE rfl (gU rfl (oC rfl (OL.nil (AW.ret ⟨.inr rfl,16,bq,cq,((List.replicate i (0:Rat)).take i).map dW,rfl,rfl,by rw[e9,dD];omega,by rw[e9];exact List.take_of_length_le (by rw[dD];omega)⟩))))
theorem Yk {a:Au}(f:Au.Wt a):aj P F.zZ [zG a] (.d (dB true)):=by
 have e3:=f.wide.num;have e4:=yB a.aP;have hfo:∀ x,x ∈ qH a.aP->x.f<a.st/\x.t<a.st/\1<=x.l/\x.l<=a.sym:=f.ok.form.arc;refine aj.intro fn.zZ (by rfl) (by rfl) (aA (by rfl)) λE hE=>(AW.sg hE rfl (gW rfl rfl λb1=>(aC rfl (OL.nil (AW.sg hE rfl (aV fd.jc rfl rfl (aN ag.Ring rfl rfl (vs:=[_,_]) rfl (aA rfl) ?_)))))))
 refine aV fd.iI rfl rfl (aG ce.dm rfl rfl rfl (bF rfl vL (ao5 (l:=a.aP) e3 f.wide.arc) (aC rfl (OL.nil (AW.seq (AW.sg hE rfl (aC rfl ?_)))))));refine OL.nil (AW.block (AW.aU (α:=Nat) [(3,_)] [] (λi=>[(4,.d (dI i))]) (λi=>[]) (λi=>i<=(qH a.aP).length) (λi=>(qH a.aP).length-i) 0 (.cons (bY rfl) .nil) .nil ⟨Nat.zero_le _,.di,.nil⟩ ?_))
 rintro i h1
 have h1:i<=(qH a.aP).length:=h1;refine AW.seq (AW.sg hE rfl (ai rfl (ai rfl (fJ sl.dm rfl rfl (aX rfl rfl rfl (OL.nil (AW.cond rfl (λh13=>?_) (λh13=>?_))))))))
 .try simp only[eG] at h13
  refine AW.skip (AW.seq (AW.block (AW.seq ?_)));have hx:=(hfo ((qH a.aP).getD i default) (getD_mem (by omega) default)).2.2.1
  refine AW.rg hE rfl (ai rfl (ai rfl (fM sl.dm default rfl rfl (by omega) rfl rfl (YK fd.yZ rfl rfl (iE ce.int rfl (dG rfl rfl (c:=false) (by exact decide_eq_false (by omega)) (OL.nil ?_)))))))
  refine oz rfl ?_;exact AW.skip (AW.rg hE rfl (ai rfl (aH rfl rfl (by omega) (aC rfl (OL.nil (AW.again (x:=i) (i+1) (by omega) ⟨by omega,Knows.app .di .di,.nil⟩))))))
 .try simp only[eG] at h13
  exact AW.exit (AW.sg hE rfl (aC rfl (OL.nil (AW.ret (aO.r ⟨_,.tmp rfl .nil,.le vR⟩)))))
theorem aE7 {a:Au}{w:List Int}(f:Au.Wt a)(hw:iV a.sym w)(hl:w.length<=4):aj P F.Ad [zG a,.d (ints w)] (.d (dI 0)):=by
 have h0:=f.ok.GY;have s2:=f.s2;refine aj.intro fn.Ad (by rfl) (by rfl) (aA (by rfl)) λE hE=>(AW.sg hE rfl (gW rfl rfl λb2=>(aC rfl (OL.nil (AW.seq (AW.block (AW.sg hE rfl ?_)))))))
 refine aN ag.Auto rfl rfl (vs:=[_,_,_,_,_,_,_]) rfl (aA rfl) (bF rfl vL (RD (a:=a) f.ok f.wide f.s2 f.st) (nt rfl (aC rfl (OL.nil (oz rfl ?_)))));refine AW.sg hE rfl (aN ag.Auto rfl rfl (vs:=[_,_,_,_,_,_,_]) rfl (aA rfl) (bF rfl vL (Yk f) (nt rfl (aC rfl (OL.nil (oz rfl ?_))))));refine AW.sg hE rfl (ai rfl (aV fd.rO rfl rfl (aG ce.int rfl rfl rfl (bF rfl vL (aE5 (w:=w) (s:=a.sym) (by omega) hw (by omega)) (nt rfl (aC rfl (OL.nil ?_)))))))
 refine oz rfl ?_;exact AW.skip (AW.sg hE rfl (aC rfl (OL.nil (AW.ret (aO.r ⟨_,.tmp rfl .nil,.le vR⟩)))))
set_option maxRecDepth 8000 in
theorem aQ2 {a:Au}{v:List Rat}{s:Nat}(f:Au.Wt a)(hv:v.length=a.st)(hz:∀ i,sz (v.getD i 0)<=2147361):aj P F.CY [zG a,.d (tH v),.d (dI s)] (.d (tH (gQ a.st v s a.aP))):=by
 have e3:=f.wide.num;have s2:=f.st;refine aj.intro fn.CY (by rfl) (by rfl) (aA (by rfl)) λE hE=>(AW.sg hE rfl (gW rfl rfl λb3=>(jg rfl (OL.nil (AW.sg hE rfl (aV fd.jc rfl rfl (aN ag.Ring rfl rfl (vs:=[_,_]) rfl (aA rfl) ?_)))))))
 refine aV fd.jW rfl rfl (aG ce.int rfl rfl rfl (clR rfl .gy (aE6 (n:=a.st) s2) rfl λb14 c14=>(oC rfl (OL.nil (AW.seq (AW.sg hE rfl (aC rfl ?_)))))));refine OL.nil (AW.block ?_);refine AW.aU (α:=Nat) [(1,_),(2,_),(3,_),(6,_),(7,_)] [(3,_)] (λi=>[(8,.d (dI i))]) (λi=>[(14,.row b14 c14 T.ak 8 ((gQ a.st v s (a.aP.take i)).map dW))]) (λi=>i<=a.aP.length) (λi=>a.aP.length-i) 0 (.cons (bY rfl) (.cons (bY rfl) (.cons (iJ rfl) (.cons (AO rfl) (.cons (yO rfl) .nil))))) (.cons (kC rfl) .nil) ⟨Nat.zero_le _,.di,.cons rfl .nil⟩ ?_
 rintro i h1
 have h1:i<=a.aP.length:=h1;have hsl:(gQ a.st v s (a.aP.take i)).length=a.st:=ru;refine AW.seq (AW.sg hE rfl (ai rfl (aV fd.iI rfl rfl (aG ce.dm rfl rfl rfl (fJ sl.dm rfl rfl (aX rfl rfl rfl (OL.nil ?_)))))));refine AW.cond rfl (λh19=>?_) (λh19=>?_)
 .try simp only[eG] at h19
  refine AW.skip (AW.seq (AW.block (AW.seq ?_)));have hm:=getD_mem (l:=a.aP) (i:=i) (by omega) default
  obtain⟨hx1,hx2,hx3,hx4⟩:=f.ok.arc (a.aP.getD i default) hm;have hxz:=f.sz.arc (a.aP.getD i default) hm;have hz1:=hz (a.aP.getD i default).f;have hz2:=Hq f (i:=i) (j:=(a.aP.getD i default).t) (s:=s) hz;have hz3:=lU (v.getD (a.aP.getD i default).f 0) (a.aP.getD i default).q;refine AW.rg hE rfl (aV fd.iI rfl rfl (aG ce.dm rfl rfl rfl (ai rfl (fM sl.dm default rfl rfl (by omega) rfl rfl (jS ag.ny rfl (vs:=[_,_,_,_,_,_,_,_,_,_,_]) rfl (aA rfl) (al z.ny rfl λb9=>(fG sz.ny rfl rfl rfl rfl rfl (aA rfl) (cells2:=[_,_,_,_,_,_,_,_,_,_,_]) rfl ?_)))))))
  refine OL.nil (AW.sg hE rfl (aV fd.yZ rfl rfl (aG ce.int rfl rfl rfl (ai rfl (dG rfl rfl rfl (OL.split 30 rfl (λhc=>?_) (λhc=>?_)))))))
  .have hc:(a.aP.getD i default).l=s:=by have:=kK hc;omega
   refine OL.nil (J4 rfl ?_);refine AW.dg 1 [0,1,2,3,4,5,6,7,8,9,10,11,12,13,14,15,16,17,18,19,20,21,22] au hE rfl (by kernel_rfl) (OI.aS (os:=[_,_,_,_,_,_,_,_,_,_,_,_,_,_,_,_,_,_,_,_,_,_,_]) rfl ?_)
   refine gU rfl (aV fd.xq rfl rfl (aG ce.int rfl rfl rfl (aV fd.jc rfl rfl (aN ag.Ring rfl rfl (vs:=[_,_]) rfl (aA rfl) (gU rfl (aV fd.xq rfl rfl (aG ce.int rfl rfl rfl ?_)))))));refine jk sl.aT rfl rfl (by omega) ?_
   refine FW ag.ak (by decide) rfl rfl (aD6 (show (a.aP.getD i default).t<(gQ a.st v s (a.aP.take i)).length by omega)) (vs:=[.d (dB (fP ((gQ a.st v s (a.aP.take i)).getD (a.aP.getD i default).t 0)).neg),.d (aF (fP ((gQ a.st v s (a.aP.take i)).getD (a.aP.getD i default).t 0)).num),.d (aF (fP ((gQ a.st v s (a.aP.take i)).getD (a.aP.getD i default).t 0)).den),.d (dI 0),.d (dB false),.d (dU 0),.d (.sl []),.d (.sl [])]) rfl (aA rfl) ?_
   refine aV fd.jc rfl rfl (aN ag.Ring rfl rfl (vs:=[_,_]) rfl (aA rfl) (ai rfl (aV fd.xM rfl rfl (aG ce.int rfl rfl rfl (fM sl.aT 0 rfl rfl (by omega) rfl rfl (jS ag.ak rfl (vs:=[_,_,_,_,_,_,_,_]) rfl (aA rfl) (aV fd.sF rfl rfl ?_)))))))
   refine aN ag.ak rfl rfl (vs:=[_,_,_,_,_,_,_,_]) rfl (aA rfl) (bF rfl vL (Yi (p:=v.getD (a.aP.getD i default).f 0) (q:=(a.aP.getD i default).q) (by omega) (by omega)) (bF rfl vL (WQ (p:=(gQ a.st v s (a.aP.take i)).getD (a.aP.getD i default).t 0) (q:=v.getD (a.aP.getD i default).f 0*(a.aP.getD i default).q) (by omega) (by omega)) (jk sl.aT rfl rfl (by omega) ?_)))
   refine Oa sz.ak rfl (d:=dW ((gQ a.st v s (a.aP.take i)).getD (a.aP.getD i default).t 0+v.getD (a.aP.getD i default).f 0*(a.aP.getD i default).q)) MR rfl rfl (by rw[dD];omega) (es2:=((gQ a.st v s (a.aP.take i)).set (a.aP.getD i default).t ((gQ a.st v s (a.aP.take i)).getD (a.aP.getD i default).t 0+v.getD (a.aP.getD i default).f 0*(a.aP.getD i default).q)).map dW) (by rw[List.map_set]) ?_
   refine OL.nil (AW.rg hE rfl (ai rfl (aH rfl rfl (by omega) (aC rfl (OL.nil ?_)))))
   exact AW.again (x:=i) (i+1) (by omega) ⟨by omega,Knows.app .Gs .di,dw.app (.cons rfl .nil) (.cons (by rw[wo (by omega),ap2 hc];rfl) .nil)⟩
  .have hc:¬ (a.aP.getD i default).l=s:=by have:=lD hc;omega
   refine OL.nil (oz rfl ?_);refine AW.skip (AW.rg hE rfl (ai rfl (aH rfl rfl (by omega) (aC rfl (OL.nil ?_)))))
   exact AW.again (x:=i) (i+1) (by omega) ⟨by omega,Knows.app .Gs .di,dw.app (.cons rfl .nil) (.cons (by rw[wo (by omega),ap3 hc];rfl) .nil)⟩
 .try simp only[eG] at h19
  refine AW.exit (AW.seq ?_);obtain rfl:i=a.aP.length:=by omega
  exact AW.rg hE rfl (gU rfl (oC rfl (OL.nil (AW.ret (aO.r ⟨_,.tmp rfl .nil,RO.all rfl rfl (by rw[dD,ru]) (by rw[List.take_length])⟩)))))
theorem ZL {a:Au}{w:List Int}(f:Au.Wt a)(hw:iV a.sym w)(hl:w.length<=4):aj P F.wH [zG a,.d (ints w)] (.jE [.d (tH (pX a w)),.d (dI 0)]):=by
 have h0:=f.ok.GY;refine aj.intro fn.wH (by rfl) (by rfl) (aA (by rfl)) λE hE=>(AW.sg hE rfl (gW rfl rfl λb2=>(jg rfl (aC rfl (OL.nil (AW.seq (AW.sg hE rfl ?_)))))))
 refine aN ag.Auto rfl rfl (vs:=[_,_,_,_,_,_,_]) rfl (aA rfl) (ai rfl (bF rfl vL (aE7 f hw hl) (aC rfl (OL.nil (AW.sg hE rfl (ai rfl (fC rfl rfl (c:=false) (by exact nZ (by omega)) ?_)))))))
 refine OL.nil (oz rfl ?_);refine AW.skip (AW.sg hE rfl (aN ag.Auto rfl rfl (vs:=[_,_,_,_,_,_,_]) rfl (aA rfl) (bF rfl vL (NR (a:=a) f.ok f.wide f.st) (fdC fc.uZ rfl rfl (aC rfl (OL.nil (AW.seq ?_)))))));refine AW.sg hE rfl (aC rfl (OL.nil (AW.block ?_)));refine AW.aU (α:=Nat) [(1,_),(2,_),(4,_),(5,_)] [(2,_)] (λi=>[(7,.d (tH (pX a (w.take i)))),(8,.d (dI i))]) (λi=>[]) (λi=>i<=w.length) (λi=>w.length-i) 0 (.cons (bY rfl) (.cons (iJ rfl) (.cons (AO rfl) (.cons (bY rfl) .nil)))) (.cons (kC rfl) .nil) ⟨Nat.zero_le _,.gy,.nil⟩ ?_
 rintro i h1
 have h1:i<=w.length:=h1;have hfz:∀ j,sz ((pX a (w.take i)).getD j 0)<=2147361:=λj=>Nat.le_trans (Wy f.ok f.sz w i h1 j) (aH9 (by omega))
 refine AW.seq (AW.sg hE rfl (ai rfl (ai rfl (fJ sl.ints rfl rfl (aX rfl rfl rfl (OL.nil (AW.cond rfl (λh21=>?_) (λh21=>?_))))))))
 .try simp only[eG] at h21
  refine AW.skip (AW.seq (AW.block ?_));have hx:=hw (w.getD i 0) (getD_mem (by omega) 0)
  refine AW.dg 1 [0,1,2,3,4,5,6,7] au hE rfl (by kernel_rfl) (OI.aS (os:=[_,_,_,_,_,_,_,_]) rfl ?_)
  refine aN ag.Auto rfl rfl (vs:=[_,_,_,_,_,_,_]) rfl (aA rfl) (ai rfl (ai rfl (ai rfl (fM sl.ints 0 rfl rfl (by omega) rfl rfl (iE ce.int rfl (bF rfl (.cons vR (.cons vR (.cons (bG.int (by omega)) .nil))) (aQ2 (a:=a) (v:=pX a (w.take i)) (s:=(w.getD i 0).toNat) f (Fg f.ok _) hfz) (aC rfl ?_)))))))
  refine OL.nil (AW.rg hE rfl (ai rfl (aH rfl rfl (by omega) (aC rfl (OL.nil ?_)))))
  exact AW.again (x:=i) (i+1) (by omega) ⟨by omega,Knows.app .GL (.cons (by rw[En (by omega)];exact bG.refl _) .di),dw.app (.cons rfl .nil) (.nil)⟩
 .try simp only[eG] at h21
  refine AW.exit (AW.seq ?_);obtain rfl:i=w.length:=by omega
  exact AW.rg hE rfl (ai rfl (aC rfl (aC rfl (OL.nil (AW.ret (aO.r ⟨_,.tmp rfl (.tmp rfl .nil),_,.cons (.le (by rw[List.take_length];exact bG.refl _)) (.cons (.le vR) .nil),rfl⟩))))))
theorem a09 {v u:List Rat}{n:Nat}(hv:v.length=n)(hu:u.length=n)(hn:n<=64)(zv:∀ i,sz (v.getD i 0)<=2147361)(zu:∀ i,sz (u.getD i 0)<=6):aj P F.EN [lN,.d (tH v),.d (tH u)] (vW (zH v u n)):=by
 refine aj.intro fn.EN (by rfl) (by rfl) (aA (by rfl)) λE hE=>(AW.sg hE rfl (gW rfl rfl λb3=>(al z.ak rfl λb6=>(OL.nil (AW.sg hE rfl (aN ag.Ring rfl rfl (vs:=[_,_]) rfl (aA rfl) (bF rfl vL (NP) ?_)))))))
 refine al z.ak rfl λb7=>(fG sz.ak rfl rfl rfl rfl rfl (aA rfl) (cells2:=[_,_,_,_,_,_,_,_]) rfl (OL.nil (AW.seq (AW.sg hE rfl (aC rfl (OL.nil (AW.block ?_)))))));refine AW.aU (α:=Nat) [(1,_),(2,_),(3,_),(6,_),(7,_)] [(3,_),(6,_)] (λi=>[(8,.d (dI i))]) (λi=>[(7,.box b7 T.ak [.d (dB (fP (zH v u i)).neg),.d (aF (fP (zH v u i)).num),.d (aF (fP (zH v u i)).den),.d (dI 0),.d (dB false),.d (dU 0),.d (.sl []),.d (.sl [])])]) (λi=>i<=n) (λi=>n-i) 0 (.cons (bY rfl) (.cons (bY rfl) (.cons (iJ rfl) (.cons (iJ rfl) (.cons (iJ rfl) .nil))))) (.cons (kC rfl) (.cons (kC rfl) .nil)) ⟨Nat.zero_le _,.di,.cons rfl .nil⟩ ?_
 rintro i h1
 have h1:i<=n:=h1;have z1:=zv i;have z2:=zu i;have z3:=lU (v.getD i 0) (u.getD i 0);have z4:=aE4 (i:=i) zv zu;refine AW.seq (AW.sg hE rfl (ai rfl (ai rfl (fJ sl.aT rfl rfl (aX rfl rfl rfl (OL.split 14 rfl (λha=>?_) (λha=>?_)))))))
 .have ha:i<n:=by have:=kK ha;simp at this;omega
  refine ai rfl (OL.yes rfl (ai rfl (OL.yes rfl (ai rfl (OL.yes rfl (fJ sl.aT rfl rfl (OL.yes rfl ?_)))))));refine aX rfl rfl (c:=true) (decide_eq_true (by omega)) (lJ rfl rfl (OL.nil (J4 rfl ?_)))
  refine AW.skip (AW.seq (AW.block (AW.dg 1 [0,1,2,3,4,5,6,7,8,9,10,11,12,13] au hE rfl (by kernel_rfl) (OI.aS (os:=[_,_,_,_,_,_,_,_,_,_,_,_,_,_]) rfl ?_))))
  refine aN ag.Ring rfl rfl (vs:=[_,_]) rfl (aA rfl) (aN ag.ak rfl rfl (vs:=[_,_,_,_,_,_,_,_]) rfl (aA rfl) (aN ag.Ring rfl rfl (vs:=[_,_]) rfl (aA rfl) (ai rfl (ai rfl (fM sl.aT 0 rfl rfl (by omega) rfl rfl (jS ag.ak rfl (vs:=[_,_,_,_,_,_,_,_]) rfl (aA rfl) (ai rfl ?_)))))))
  refine ai rfl (fM sl.aT 0 rfl rfl (by omega) rfl rfl (jS ag.ak rfl (vs:=[_,_,_,_,_,_,_,_]) rfl (aA rfl) (bF rfl vL (Yi (p:=v.getD i 0) (q:=u.getD i 0) (by omega) (by omega)) (bF rfl vL (WQ (p:=(zH v u i)) (q:=v.getD i 0*u.getD i 0) (by omega) (by omega)) (fG sz.ak rfl rfl rfl rfl rfl (aA rfl) (cells2:=[_,_,_,_,_,_,_,_]) rfl (OL.nil (AW.rg hE rfl ?_)))))))
  exact ai rfl (aH rfl rfl (by omega) (aC rfl (OL.nil (AW.again (x:=i) (i+1) (by omega) ⟨by omega,Knows.app .Gs .di,dw.app (.cons rfl (.cons rfl .nil)) (.cons rfl .nil)⟩))))
 .have ha:¬ i<n:=by have:=lD ha;simp at this;omega
  obtain rfl:i=n:=by omega
  refine ai rfl (OL.nd rfl (OL.nd rfl (OL.nd rfl (OL.nd rfl (jZ rfl rfl (OL.nil (oz rfl ?_)))))));refine AW.exit (AW.sg hE rfl (aN ag.ak rfl rfl (vs:=[_,_,_,_,_,_,_,_]) rfl (aA rfl) (fG sz.ak rfl rfl rfl rfl rfl (aA rfl) (cells2:=[_,_,_,_,_,_,_,_]) rfl (OL.nil ?_))));exact AW.ret (aO.r ⟨_,.dL rfl rfl ag.ak (aA rfl) .nil,.ag (.cons (.le vR) (.cons (.le vR) (.cons (.le vR) (.cons (.le vR) (.cons (.le vR) (.cons (.le vR) (.cons (.le vR) (.cons (.le vR) .nil))))))))⟩)
theorem ap4 {a:Au}{w:List Int}(f:Au.Wt a)(hw:iV a.sym w)(hl:w.length<=4):aj P F.qR [zG a,.d (ints w)] (.jE [vW (jm a w),.d (dI 0)]):=by
 have hfz:∀ j,sz ((pX a w).getD j 0)<=2147361:=λj=>by
   have h:=Wy f.ok f.sz w w.length (Nat.le_refl _) j;rw[List.take_length] at h;exact Nat.le_trans h (aH9 hl)
 refine aj.intro fn.qR (by rfl) (by rfl) (aA (by rfl)) λE hE=>(AW.sg hE rfl (gW rfl rfl λb2=>(al z.ak rfl λb4=>(aC rfl (OL.nil (AW.sg hE rfl (aN ag.Auto rfl rfl (vs:=[_,_,_,_,_,_,_]) rfl (aA rfl) ?_)))))))
 refine ai rfl (bF rfl vL (ZL f hw hl) (yu rfl (ex rfl rfl (ex rfl rfl (aC rfl (aC rfl (OL.nil ?_)))))));refine AW.seq (AW.sg hE rfl (ai rfl (fC rfl rfl (c:=false) (by exact nZ (by omega)) (OL.nil (oz rfl ?_)))))
 refine AW.skip (AW.sg hE rfl (aV fd.jc rfl rfl (aN ag.Ring rfl rfl (vs:=[_,_]) rfl (aA rfl) (ai rfl (aV fd.xJ rfl rfl (aG ce.aT rfl rfl rfl (bF rfl vL (a09 (v:=pX a w) (u:=a.fin) (n:=a.st) (Fg f.ok w) f.ok.fin f.st hfz (λi=>PW f.sz.fin (by decide) i)) ?_)))))))
 rw[Ut f.ok hw];refine fG sz.ak rfl rfl rfl rfl rfl (aA rfl) (cells2:=[_,_,_,_,_,_,_,_]) rfl (aC rfl (OL.nil ?_));exact AW.ret (aO.r ⟨_,.dL rfl rfl ag.ak (aA rfl) (.tmp rfl .nil),_,.cons (.ag (.cons (.le vR) (.cons (.le vR) (.cons (.le vR) (.cons (.le vR) (.cons (.le vR) (.cons (.le vR) (.cons (.le vR) (.cons (.le vR) .nil))))))))) (.cons (.le vR) .nil),rfl⟩)

/-
  Walks: ref01.Mul (printed by mk2.py).
-/
import Derived.Test.YtnjoncgnjdkaoaaGreatDoorKMod130
set_option maxRecDepth 8000
set_option maxHeartbeats 1600000
set_option linter.unusedVariables false
set_option linter.unusedSimpArgs false
namespace Go.Proofs.YtnjoncgnjdkaoaaGreatDoor
open Go Go.AL
theorem fc.uZ:BN P T.Auto 3 4:=⟨by kernel_rfl⟩
theorem UX {n i:Nat}(h:i<n):(List.replicate n (0:Rat)).take (i+1)=(List.replicate n (0:Rat)).take i++[0]:=by
 rw[List.take_replicate,List.take_replicate,Nat.min_eq_left h,Nat.min_eq_left (Nat.le_of_lt h),List.replicate_succ']
theorem an6 {l:List Rat}{i:Nat}(hi:i<l.length):(l.map dW)[i]? = some (dW (l.getD i 0)):=by rw[List.getElem?_map,gI,kL hi];rfl
theorem aC7 {v out:List Rat}{s:Nat}{x:bD}(h:x.l=s):Nh v s out x=out.set x.t (out.getD x.t 0+v.getD x.f 0*x.q):=if_pos h
theorem aC8 {v out:List Rat}{s:Nat}{x:bD}(h:¬ x.l=s):Nh v s out x=out:=if_neg h
theorem Rx {s:Nat}{w:List Int}(hw:iV s w)(hl:w.length<=256)(hs:1<=s/\s<=32):aj P F.qA [.d (ints w),.d (dI s)] (.d (dB true)) :=
 qA (h:=⟨s,0,0,[],[],[],[],[],[]⟩) ⟨hl,hw⟩ hs
theorem ZG (a:Au):FO (jX a) a:=⟨rfl,rfl,rfl,rfl,λ_ _ _=>IV⟩
theorem UY (a:Au):jm (jX a)=jm a:=(ZG a).ser
theorem Kt {a:Au}(h:a.Ok):(jX a).Ok:=⟨h.GY,h.ini,h.fin,ig.tidy (p:=λf l t=>f<a.st/\t<a.st/\1<=l/\l<=a.sym) h.arc⟩
structure aZ5 (a:Au) (v:List Rat) (s:Nat):Prop where
 zv:∀ j,sz (v.getD j 0)<=17179869184
 zq:∀ x,x ∈ a.aP->sz x.q<=17179869184
 zs:∀ i j,sz ((gQ a.st v s (a.aP.take i)).getD j 0)<=17179869184
structure aP2 (a:Au) (w:List Int):Prop where
 st:∀ k,k<w.length->aZ5 a (pX a (w.take k)) (w.getD k 0).toNat
 zv:∀ j,sz ((pX a w).getD j 0)<=17179869184
 zf:∀ j,sz (a.fin.getD j 0)<=17179869184
 zd:∀ i,i<=a.st->sz (zH (pX a w) a.fin i)<=17179869184
theorem aP3 {a:Au}(hn:a.st<=64):iR P F.Am [zG a] a.st T.ak 8 ((List.replicate a.st (0:Rat)).map dW):=by
 have hzl:(List.replicate a.st (0:Rat)).length=a.st:=List.length_replicate;refine iR.intro fn.Am (by rfl) (by rfl) (aA (by rfl)) 2 rfl λE hE=>(AW.sg hE rfl (gW rfl rfl λb1=>(jg rfl (OL.nil (AW.sg hE rfl (jg rfl (OL.nil ?_)))))))
 refine AW.seq (AW.seq (AW.own 3 13 T.ak 8 rfl rfl (AW.rg hE rfl (aV fd.jW rfl rfl (aG ce.int rfl rfl rfl (ai rfl (OL.nil ?_)))))));refine AW.block ?_;refine AW.aU (α:=Nat × Nat × Nat) [(1,_),(2,_),(5,_)] [(1,_)] (λ(i,bq,cq)=>[(3,.bH 13 bq i cq),(6,.d (dI i))]) (λ(i,bq,cq)=>[(13,.row bq cq T.ak 8 (((List.replicate a.st (0:Rat)).take i).map dW))]) (λ(i,bq,cq)=>i<=a.st) (λ(i,bq,cq)=>a.st-i) (0,0,0) (.cons (iJ rfl) (.cons (AO rfl) (.cons (bY rfl) .nil))) (.cons (kC rfl) .nil) ⟨Nat.zero_le _,.gy,.cons rfl .nil⟩ ?_
 rintro⟨i,bq,cq⟩ h1
 have h1:i<=a.st:=h1;refine AW.sg hE rfl (aX rfl rfl rfl (OL.nil (AW.seq (AW.cond rfl (λh7=>?_) (λh7=>?_)))))
 .try simp only[eG] at h7
  refine AW.skip (AW.seq (AW.block (AW.rg hE rfl (gU rfl (aV fd.jc rfl rfl (aN ag.Ring rfl rfl (vs:=[_,_]) rfl (aA rfl) (bF rfl vL (Px) ?_)))))));refine xe (y:=dW 0) sl.aT MR rfl (by decide) ?_
  refine zB sl.aT rfl rfl rfl (by rw[dD,List.length_take];omega) (VC.d _) (λy hy=>by rw[kJ hy];rfl) (by simp only[jL];omega) (by simp only[jL];omega) (.inr rfl) (ys:=((List.replicate a.st (0:Rat)).take (i+1)).map dW) (by rw[UX (by omega),List.map_append];rfl) (n2:=i+1) rfl λb13 c13=>?_
  exact oC rfl (OL.nil (AW.rg hE rfl (aH rfl rfl (by omega) (ai rfl (OL.nil (AW.again (x:=(i,bq,cq)) (i+1,b13,c13) (by (simp only[];omega)) ⟨by omega,Knows.app .xf .gy,dw.app (.cons rfl .nil) (.cons rfl .nil)⟩))))))
 .try simp only[eG] at h7
  refine AW.exit (AW.seq ?_);obtain rfl:i=a.st:=by omega
  have e9:(List.replicate a.st (0:Rat)).take a.st=(List.replicate a.st (0:Rat)):=List.take_of_length_le (by omega)
  exact AW.rg hE rfl (gU rfl (oC rfl (OL.nil (AW.ret ⟨.inr rfl,13,bq,cq,((List.replicate a.st (0:Rat)).take a.st).map dW,rfl,rfl,by rw[e9,dD];omega,by rw[e9];exact List.take_of_length_le (by rw[dD];omega)⟩))))
theorem aZ6 {a:Au}{v:List Rat}{s:Nat}(h:a.Ok)(hv:v.length=a.st)(zz:aZ5 a v s)(s2:a.st<=64)(e3:a.aP.length<=2048):aj P F.Df [zG a,.d (tH v),.d (dI s)] (.d (tH (gQ a.st v s a.aP))):=by
 refine aj.intro fn.Df (by rfl) (by rfl) (aA (by rfl)) λE hE=>(AW.sg hE rfl (gW rfl rfl λb3=>(jg rfl (OL.nil (AW.sg hE rfl (aN ag.Auto rfl rfl (vs:=[_,_,_,_,_,_,_]) rfl (aA rfl) (clR rfl .di (aP3 (a:=a) s2) rfl λb11 c11=>?_)))))))
 refine oC rfl (OL.nil (AW.seq (AW.sg hE rfl (aV fd.iI rfl rfl (aG ce.dm rfl rfl rfl (fJ sl.dm rfl rfl (ai rfl ?_)))))));refine OL.nil (AW.block ?_);refine AW.aU (α:=Nat) [(1,_),(2,_),(3,_),(6,_),(7,_),(13,_),(14,_)] [(3,_)] (λi=>[(15,.d (dI i))]) (λi=>[(11,.row b11 c11 T.ak 8 ((gQ a.st v s (a.aP.take i)).map dW))]) (λi=>i<=a.aP.length) (λi=>a.aP.length-i) 0 (.cons (bY rfl) (.cons (bY rfl) (.cons (iJ rfl) (.cons (AO rfl) (.cons (yO rfl) (.cons (bY rfl) (.cons (bY rfl) .nil))))))) (.cons (kC rfl) .nil) ⟨Nat.zero_le _,.di,.cons rfl .nil⟩ ?_
 rintro i h1
 have h1:i<=a.aP.length:=h1;have hsl:(gQ a.st v s (a.aP.take i)).length=a.st:=ru;refine AW.sg hE rfl (aX rfl rfl rfl (OL.nil (AW.seq (AW.cond rfl (λh16=>?_) (λh16=>?_)))))
 .try simp only[eG] at h16
  refine AW.skip (AW.seq (AW.block (AW.seq ?_)));have hm:=getD_mem (l:=a.aP) (i:=i) (by omega) default
  obtain⟨hx1,hx2,hx3,hx4⟩:=h.arc (a.aP.getD i default) hm;have hxz:=zz.zq (a.aP.getD i default) hm;have hz1:=zz.zv (a.aP.getD i default).f;have hz2:=zz.zs i (a.aP.getD i default).t;have hz3:=lU (v.getD (a.aP.getD i default).f 0) (a.aP.getD i default).q;refine AW.rg hE rfl (fM sl.dm default rfl rfl (by omega) rfl rfl (jS ag.ny rfl (vs:=[_,_,_,_,_,_,_,_,_,_,_]) rfl (aA rfl) (al z.ny rfl λb9=>(fG sz.ny rfl rfl rfl rfl rfl (aA rfl) (cells2:=[_,_,_,_,_,_,_,_,_,_,_]) rfl (OL.nil (AW.sg hE rfl (aV fd.yZ rfl rfl ?_)))))))
  refine aG ce.int rfl rfl rfl (ai rfl (dG rfl rfl rfl (OL.nil (AW.cond rfl (λhc=>?_) (λhc=>?_)))))
  .have hc:(a.aP.getD i default).l=s:=by have:=kK hc;omega
   refine AW.dg 1 [0,1,2,3,4,5,6,7,8,9,10,11,12,13,14,15,16,17,18,19,20,21,22] au hE rfl (by kernel_rfl) (OI.aS (os:=[_,_,_,_,_,_,_,_,_,_,_,_,_,_,_,_,_,_,_,_,_,_,_]) rfl ?_)
   refine gU rfl (aV fd.xq rfl rfl (aG ce.int rfl rfl rfl (aV fd.jc rfl rfl (aN ag.Ring rfl rfl (vs:=[_,_]) rfl (aA rfl) (gU rfl (aV fd.xq rfl rfl (aG ce.int rfl rfl rfl ?_)))))));refine jk sl.aT rfl rfl (by omega) ?_
   refine FW ag.ak (by decide) rfl rfl (an6 (show (a.aP.getD i default).t<(gQ a.st v s (a.aP.take i)).length by omega)) (vs:=[.d (dB (fP ((gQ a.st v s (a.aP.take i)).getD (a.aP.getD i default).t 0)).neg),.d (aF (fP ((gQ a.st v s (a.aP.take i)).getD (a.aP.getD i default).t 0)).num),.d (aF (fP ((gQ a.st v s (a.aP.take i)).getD (a.aP.getD i default).t 0)).den),.d (dI 0),.d (dB false),.d (dU 0),.d (.sl []),.d (.sl [])]) rfl (aA rfl) ?_
   refine aV fd.jc rfl rfl (aN ag.Ring rfl rfl (vs:=[_,_]) rfl (aA rfl) (ai rfl (aV fd.xM rfl rfl (aG ce.int rfl rfl rfl (fM sl.aT 0 rfl rfl (by omega) rfl rfl (jS ag.ak rfl (vs:=[_,_,_,_,_,_,_,_]) rfl (aA rfl) (aV fd.sF rfl rfl ?_)))))))
   refine aN ag.ak rfl rfl (vs:=[_,_,_,_,_,_,_,_]) rfl (aA rfl) (bF rfl vL (ai7 (p:=v.getD (a.aP.getD i default).f 0) (q:=(a.aP.getD i default).q) (by omega) (by omega)) (bF rfl vL (Py (p:=(gQ a.st v s (a.aP.take i)).getD (a.aP.getD i default).t 0) (q:=v.getD (a.aP.getD i default).f 0*(a.aP.getD i default).q) (by omega) (by omega)) (jk sl.aT rfl rfl (by omega) ?_)))
   refine Oa sz.ak rfl (d:=dW ((gQ a.st v s (a.aP.take i)).getD (a.aP.getD i default).t 0+v.getD (a.aP.getD i default).f 0*(a.aP.getD i default).q)) MR rfl rfl (by rw[dD];omega) (es2:=((gQ a.st v s (a.aP.take i)).set (a.aP.getD i default).t ((gQ a.st v s (a.aP.take i)).getD (a.aP.getD i default).t 0+v.getD (a.aP.getD i default).f 0*(a.aP.getD i default).q)).map dW) (by rw[List.map_set]) ?_
   refine OL.nil (AW.rg hE rfl (aH rfl rfl (by omega) (ai rfl (OL.nil ?_))))
   exact AW.again (x:=i) (i+1) (by omega) ⟨by omega,Knows.app .rq7 .di,dw.app (.cons rfl .nil) (.cons (by rw[wo (by omega),aC7 hc];rfl) .nil)⟩
  .have hc:¬ (a.aP.getD i default).l=s:=by have:=lD hc;omega
   refine AW.skip (AW.rg hE rfl (aH rfl rfl (by omega) (ai rfl (OL.nil ?_))))
   exact AW.again (x:=i) (i+1) (by omega) ⟨by omega,Knows.app .rq7 .di,dw.app (.cons rfl .nil) (.cons (by rw[wo (by omega),aC8 hc];rfl) .nil)⟩
 .try simp only[eG] at h16
  refine AW.exit (AW.seq ?_);obtain rfl:i=a.aP.length:=by omega
  exact AW.rg hE rfl (gU rfl (oC rfl (OL.nil (AW.ret (aO.r ⟨_,.tmp rfl .nil,RO.all rfl rfl (by rw[dD,ru]) (by rw[List.take_length])⟩)))))
theorem aP4 {a:Au}(h:a.Ok)(za:a.Sz 134217728 20)(s1:a.sym<=32)(s2:a.st<=64){w:List Int}(hw:iV a.sym w)(hl:w.length<=256):aj P F.Af [zG a,.d (ints w)] (.jE [zG (jX a),.d (dI 0)]):=by
 have e0:=h.GY;have e1:=h.ini;have e2:=h.fin;have e3:=za.num;have tl:=I4 a.aP;refine aj.intro fn.Af (by rfl) (by rfl) (aA (by rfl)) λE hE=>(AW.sg hE rfl (gW rfl rfl λb2=>(al z.Auto rfl λb4=>(aC rfl (OL.nil (AW.sg hE rfl (aN ag.Auto rfl rfl (vs:=[_,_,_,_,_,_,_]) rfl (aA rfl) ?_)))))))
 refine bF rfl .di (X3 h za s1 s2) (yu rfl (ex rfl rfl (ex rfl rfl (al z.Auto rfl λb6=>(fG sz.Auto rfl rfl rfl rfl rfl (aA rfl) (cells2:=[_,_,_,_,_,_,_]) rfl (aC rfl (OL.nil ?_)))))));refine AW.seq (AW.block (AW.sg hE rfl (ai rfl (fC rfl rfl (c:=false) (by exact nZ (by omega)) (aC rfl (OL.nil (oz rfl ?_)))))))
 refine AW.sg hE rfl (aV fd.iI rfl rfl (aG ce.dm rfl rfl rfl (bF rfl vL (Nc (l:=(jX a).aP) (f:=F.sD) (caps:=[]) (p:=λ_=>false) (λx hx=>aA9 (Nb h x hx)) (by show (vH a.aP).length<=_;omega)) ?_)))
 rw[any_false λx _=>rfl];refine aC rfl (OL.nil (oz rfl ?_));refine AW.sg hE rfl (ai rfl (aV fd.rO rfl rfl (aG ce.int rfl rfl rfl (bF rfl vL (Rx (s:=a.sym) hw hl ⟨e0,s1⟩) (nt rfl (aC rfl (OL.nil ?_)))))));refine oz rfl ?_;refine AW.skip (AW.sg hE rfl (aN ag.Auto rfl rfl (vs:=[_,_,_,_,_,_,_]) rfl (aA rfl) (fG sz.Auto rfl rfl rfl rfl rfl (aA rfl) (cells2:=[_,_,_,_,_,_,_]) rfl (aC rfl (OL.nil ?_)))));exact AW.ret (aO.r ⟨_,.dL rfl rfl ag.Auto (aA rfl) (.tmp rfl .nil),_,.cons (.ag (.cons (.le vR) (.cons (.le vR) (.cons (.le vR) (.cons (.le vR) (.cons (.le vR) (.cons (.le vR) (.cons (.le vR) .nil)))))))) (.cons (.le vR) .nil),rfl⟩)
theorem an7 {a:Au}(h:a.Ok)(za:a.Sz 134217728 20)(s1:a.sym<=32)(s2:a.st<=64){w:List Int}(hw:iV a.sym w)(hl:w.length<=256)(zz:aP2 (jX a) w):aj P F.wP [zG a,.d (ints w)] (.jE [.d (tH (pX (jX a) w)),.d (dI 0)]):=by
 have e0:=h.GY;have e1:=h.ini;have e2:=h.fin;have e3:=za.num;have hn:=Kt h;have tl:=I4 a.aP;have e4:(jX a).aP.length<=2048:=by show (vH a.aP).length<=_;omega
 refine aj.intro fn.wP (by rfl) (by rfl) (aA (by rfl)) λE hE=>(AW.sg hE rfl (gW rfl rfl λb2=>(jg rfl (aC rfl (OL.nil (AW.sg hE rfl (aN ag.Auto rfl rfl (vs:=[_,_,_,_,_,_,_]) rfl (aA rfl) ?_)))))))
 refine ai rfl (bF rfl vL (aP4 h za s1 s2 hw hl) (yu rfl (ex rfl rfl (ex rfl rfl (fG sz.Auto rfl rfl rfl rfl rfl (aA rfl) (cells2:=[_,_,_,_,_,_,_]) rfl (aC rfl (OL.nil ?_)))))));refine AW.seq (AW.sg hE rfl (ai rfl (fC rfl rfl (c:=false) (by exact nZ (by omega)) (OL.nil (oz rfl ?_)))))
 refine AW.skip (AW.sg hE rfl (aV fd.uZ rfl rfl (aG ce.aT rfl rfl rfl (aC rfl (OL.nil (AW.seq (AW.sg hE rfl ?_)))))));refine ai rfl (fJ sl.ints rfl rfl (ai rfl (OL.nil (AW.block ?_))));refine AW.aU (α:=Nat) [(2,_),(4,_),(5,_),(21,_),(22,_)] [(2,_)] (λi=>[(7,.d (tH (pX (jX a) (w.take i)))),(23,.d (dI i))]) (λi=>[]) (λi=>i<=w.length) (λi=>w.length-i) 0 (.cons (iJ rfl) (.cons (AO rfl) (.cons (bY rfl) (.cons (bY rfl) (.cons (bY rfl) .nil))))) (.cons (kC rfl) .nil) ⟨Nat.zero_le _,.gy,.nil⟩ ?_
 rintro i h1
 have h1:i<=w.length:=h1;refine AW.sg hE rfl (aX rfl rfl rfl (OL.nil (AW.seq (AW.cond rfl (λQA=>?_) (λQA=>?_)))))
 .try simp only[eG] at QA
  refine AW.skip (AW.seq (AW.block (AW.seq ?_)));have hx:=hw (w.getD i 0) (getD_mem (by omega) 0)
  refine AW.rg hE rfl (fM sl.ints 0 rfl rfl (by omega) rfl rfl (iE ce.int rfl (aC rfl (OL.nil (AW.rg hE rfl (aN ag.Auto rfl rfl (vs:=[_,_,_,_,_,_,_]) rfl (aA rfl) (ai rfl ?_)))))))
  refine ai rfl (bF rfl (.cons vR (.cons vR (.cons (bG.int (by omega)) .nil))) (aZ6 (a:=(jX a)) (v:=pX (jX a) (w.take i)) (s:=(w.getD i 0).toNat) hn (Fg hn _) (zz.st i (by omega)) s2 e4) (aC rfl (OL.nil (AW.rg hE rfl (aH rfl rfl (by omega) (ai rfl (OL.nil ?_)))))))
  exact AW.again (x:=i) (i+1) (by omega) ⟨by omega,Knows.app .Gs (.cons (by rw[En (by omega)];exact bG.refl _) .di),dw.app (.cons rfl .nil) (.nil)⟩
 .try simp only[eG] at QA
  refine AW.exit (AW.seq ?_);obtain rfl:i=w.length:=by omega
  exact AW.rg hE rfl (ai rfl (aC rfl (aC rfl (OL.nil (AW.ret (aO.r ⟨_,.tmp rfl (.tmp rfl .nil),_,.cons (.le (by rw[List.take_length];exact bG.refl _)) (.cons (.le vR) .nil),rfl⟩))))))
theorem bh8 {v u:List Rat}{n:Nat}(hv:v.length=n)(hu:u.length=n)(hn:n<=64)(zv:∀ i,sz (v.getD i 0)<=17179869184)(zu:∀ i,sz (u.getD i 0)<=17179869184)(zd:∀ i,i<=n->sz (zH v u i)<=17179869184):aj P F.EP [lN,.d (tH v),.d (tH u)] (vW (zH v u n)):=by
 refine aj.intro fn.EP (by rfl) (by rfl) (aA (by rfl)) λE hE=>(AW.sg hE rfl (gW rfl rfl λb3=>(al z.ak rfl λb6=>(OL.nil (AW.sg hE rfl (aN ag.Ring rfl rfl (vs:=[_,_]) rfl (aA rfl) (bF rfl vL (Px) ?_)))))))
 refine al z.ak rfl λb7=>(fG sz.ak rfl rfl rfl rfl rfl (aA rfl) (cells2:=[_,_,_,_,_,_,_,_]) rfl (OL.nil (AW.seq (AW.sg hE rfl (ai rfl (fJ sl.aT rfl rfl (ai rfl ?_)))))));refine OL.nil (AW.block ?_);refine AW.aU (α:=Nat) [(1,_),(2,_),(3,_),(6,_),(7,_),(12,_)] [(3,_),(6,_)] (λi=>[(13,.d (dI i))]) (λi=>[(7,.box b7 T.ak [.d (dB (fP (zH v u i)).neg),.d (aF (fP (zH v u i)).num),.d (aF (fP (zH v u i)).den),.d (dI 0),.d (dB false),.d (dU 0),.d (.sl []),.d (.sl [])])]) (λi=>i<=n) (λi=>n-i) 0 (.cons (bY rfl) (.cons (bY rfl) (.cons (iJ rfl) (.cons (iJ rfl) (.cons (iJ rfl) (.cons (bY rfl) .nil)))))) (.cons (kC rfl) (.cons (kC rfl) .nil)) ⟨Nat.zero_le _,.di,.cons rfl .nil⟩ ?_
 rintro i h1
 have h1:i<=n:=h1;have z1:=zv i;have z2:=zu i;have z3:=lU (v.getD i 0) (u.getD i 0);have z4:=zd i h1;refine AW.sg hE rfl (aX rfl rfl rfl (OL.nil (AW.seq (AW.cond rfl (λEQ=>?_) (λEQ=>?_)))))
 .try simp only[eG] at EQ
  refine AW.skip (AW.seq (AW.block (AW.sg hE rfl (ai rfl (aC rfl (OL.nil (AW.dg 1 [0,1,2,3,4,5,6,7,8,9,10,11,12,13] au hE rfl (by kernel_rfl) (OI.aS (os:=[_,_,_,_,_,_,_,_,_,_,_,_,_,_]) rfl ?_))))))))
  refine aN ag.Ring rfl rfl (vs:=[_,_]) rfl (aA rfl) (aN ag.ak rfl rfl (vs:=[_,_,_,_,_,_,_,_]) rfl (aA rfl) (aN ag.Ring rfl rfl (vs:=[_,_]) rfl (aA rfl) (ai rfl (ai rfl (fM sl.aT 0 rfl rfl (by omega) rfl rfl (jS ag.ak rfl (vs:=[_,_,_,_,_,_,_,_]) rfl (aA rfl) (ai rfl ?_)))))))
  refine ai rfl (fM sl.aT 0 rfl rfl (by omega) rfl rfl (jS ag.ak rfl (vs:=[_,_,_,_,_,_,_,_]) rfl (aA rfl) (bF rfl vL (ai7 (p:=v.getD i 0) (q:=u.getD i 0) (by omega) (by omega)) (bF rfl vL (Py (p:=(zH v u i)) (q:=v.getD i 0*u.getD i 0) (by omega) (by omega)) (fG sz.ak rfl rfl rfl rfl rfl (aA rfl) (cells2:=[_,_,_,_,_,_,_,_]) rfl (OL.nil (AW.rg hE rfl ?_)))))))
  refine aH rfl rfl (by omega) (ai rfl (OL.nil ?_))
  exact AW.again (x:=i) (i+1) (by omega) ⟨by omega,Knows.app .Vh .di,dw.app (.cons rfl (.cons rfl .nil)) (.cons rfl .nil)⟩
 .try simp only[eG] at EQ
  refine AW.exit (AW.seq ?_);obtain rfl:i=n:=by omega
  refine AW.rg hE rfl (aN ag.ak rfl rfl (vs:=[_,_,_,_,_,_,_,_]) rfl (aA rfl) (fG sz.ak rfl rfl rfl rfl rfl (aA rfl) (cells2:=[_,_,_,_,_,_,_,_]) rfl (OL.nil ?_)));exact AW.ret (aO.r ⟨_,.dL rfl rfl ag.ak (aA rfl) .nil,.ag (.cons (.le vR) (.cons (.le vR) (.cons (.le vR) (.cons (.le vR) (.cons (.le vR) (.cons (.le vR) (.cons (.le vR) (.cons (.le vR) .nil))))))))⟩)
theorem aC9 {a:Au}(h:a.Ok)(za:a.Sz 134217728 20)(s1:a.sym<=32)(s2:a.st<=64){w:List Int}(hw:iV a.sym w)(hl:w.length<=256)(zz:aP2 (jX a) w):aj P F.mD [zG a,.d (ints w)] (.jE [vW (jm a w),.d (dI 0)]):=by
 have hn:=Kt h;have e9:zH (pX (jX a) w) a.fin a.st=jm a w:=by
  have h9:=Ut hn (u:=w) hw;rw[UY] at h9;exact h9
 refine aj.intro fn.mD (by rfl) (by rfl) (aA (by rfl)) λE hE=>(AW.sg hE rfl (gW rfl rfl λb2=>(al z.ak rfl λb4=>(aC rfl (OL.nil (AW.sg hE rfl (aN ag.Auto rfl rfl (vs:=[_,_,_,_,_,_,_]) rfl (aA rfl) ?_)))))))
 refine ai rfl (bF rfl vL (an7 h za s1 s2 hw hl zz) (yu rfl (ex rfl rfl (ex rfl rfl (aC rfl (aC rfl (OL.nil ?_)))))));refine AW.seq (AW.sg hE rfl (ai rfl (fC rfl rfl (c:=false) (by exact nZ (by omega)) (OL.nil (oz rfl ?_)))))
 refine AW.skip (AW.sg hE rfl (aV fd.jc rfl rfl (aN ag.Ring rfl rfl (vs:=[_,_]) rfl (aA rfl) (ai rfl (aV fd.xJ rfl rfl (aG ce.aT rfl rfl rfl (bF rfl vL (bh8 (v:=pX (jX a) w) (u:=a.fin) (n:=a.st) (Fg hn w) h.fin s2 zz.zv zz.zf zz.zd) ?_)))))));rw[e9];refine fG sz.ak rfl rfl rfl rfl rfl (aA rfl) (cells2:=[_,_,_,_,_,_,_,_]) rfl (aC rfl (OL.nil ?_));exact AW.ret (aO.r ⟨_,.dL rfl rfl ag.ak (aA rfl) (.tmp rfl .nil),_,.cons (.ag (.cons (.le vR) (.cons (.le vR) (.cons (.le vR) (.cons (.le vR) (.cons (.le vR) (.cons (.le vR) (.cons (.le vR) (.cons (.le vR) .nil))))))))) (.cons (.le vR) .nil),rfl⟩)
theorem aZ7 {x y:V}{d:D}(h:x=y)(hd:VD y d):VD x d:=h ▸ hd
theorem aZ8 {x y:V}{d:D}(h:x=y)(hd:VC y d):VC x d:=h ▸ hd
abbrev bh9:D:=.sc (.slice none 0 0)
theorem raw.bT:(P.info? T.bT).bind (λi=>i.zero.map λz=>z.cells.toList)=some [.slice none 0 0]:=by kernel_rfl
def aZ9 (m:dZ)(s i:Nat):List Rat:=((bI m).Bj.getD s []).getD i []
def rowT (m:dZ)(s i:Nat):List D:=vg bh9 (λi=>iG (aZ9 m s i)) m.n i
theorem ZH {f:Nat->Option iF}{d e:Nat}{b:Option iF}(hne:e≠d)(h:f e=none):upd (upd f d b) e none=upd f d b:=by
 funext t;by_cases ht:t=e
 .subst ht;rw[upd_same,upd_ne _ _ hne,h]
 .rw[upd_ne _ _ ht]
structure KM (α:Type) where
 b0:α->iF
 b1:α->iF
 b2:α->iF
 b3:α->iF
 b4:α->iF
 b5:α->iF
 b6:α->iF
 b7:α->iF
theorem bi0 {U:List D}{d:D}{R:List D}:(U++d::R)[U.length]? = some d:=by
 rw[List.getElem?_append_right (Nat.le_refl _),Nat.sub_self];rfl
theorem NM (s:Nat)(w:List Int):dh (s+1) w=dh s w++[w++[((s+1:Nat):Int)]]:=by
 unfold dh;rw[List.range_succ,List.map_append];rfl
theorem Qh (s:Nat)(w:List Int):(dh s w).length=s:=by simp[dh]
theorem ZI {f:Nat->Option iF}{d e:Nat}{b:Option iF}(hne:e≠d)(h:f e=none):upd (upd f d b) e none=upd f d b:=ZH hne h
def qO (k:Nat)(o:Nat):Nat:=if k % 2=0 then o else 0
def qP (k:Nat)(U:List D):List D:=if k % 2=0 then U else []
theorem an8 {k:Nat}{U:List D}:(qP k U).length=qO k U.length:=by unfold qP qO;split <;> rfl
theorem a00 {k:Nat}{U R:List D}:(if k % 2=0 then U++R else (U++R).drop U.length)=qP k U++R:=by
 unfold qP
 split
 .rfl
 .rw[List.drop_append_of_le_length (Nat.le_refl _),List.drop_length,List.nil_append]
theorem Ye {m:dZ}{w:List Int}{y:MZ}(h:bg y.rs (bQ m w)=true):xF m w y=(true,⟨y.ks++[w],y.rs++[newR y.rs (bQ m w)]⟩):=if_pos h
theorem Yf {m:dZ}{w:List Int}{y:MZ}(h:bg y.rs (bQ m w)=false):xF m w y=(false,y):=if_neg (by rw[h];exact Bool.false_ne_true)
structure Au.Take (a:Au) (s:Nat):Prop where
 fit:Au.Fit a s
 few:a.Oi
theorem Ue {a:Au}{s:Nat}(t:Au.Take a s)(s4:s<=4):(aY [a]).Ok/\(aY [a]).Full/\(aY [a]).Sz 24/\(aY [a]).n=a.st :=
 ⟨MG t.fit.ok,Gi _,Eh (λx hx=>by rw[kJ hx];exact t.few) (by rw[gG];have:=t.few.st;omega) (by show a.sym<=4;rw[t.fit.sym];exact s4),gG⟩
theorem aD0 {x y:Raw}(hx:x.Ok)(hy:y.Ok):aj P F.A8 [qc x,qc y] (vQ (x.q*y.q)):=by
 have a1:=DV hx hx.ln hx.ld (by decide)
 have a2:=DV hy hy.ln hy.ld (by decide)
 have sn1:=jT x.q;have sn2:=jT y.q;have sd1:=jU x.q;have sd2:=jU y.q;have sdd:=fQ x.q.den y.q.den;have dd0:=Nat.mul_ne_zero x.q.den_nz y.q.den_nz;have snn:=fQ x.q.num.natAbs y.q.num.natAbs;have hp:=QN (s:=decide (x.q.num<0)) (t:=decide (y.q.num<0)) (a:=x.q.num.natAbs) (b:=y.q.num.natAbs) (d1:=x.q.den) (d2:=y.q.den);rw[lT,lT] at hp;refine aj.intro fn.A8 (by rfl) (by rfl) (aA (by rfl)) λE hE=>(AW.sg hE rfl (gW rfl rfl λb2=>(gW rfl rfl λb3=>(al z.Rat rfl λb4=>(OL.nil (AW.seq (AW.dg 1 [0,1,2,3,4,5] au hE rfl (by kernel_rfl) (OI.aS (os:=[_,_,_,_,_,_]) rfl ?_))))))))
 refine aN ag.Rat rfl rfl (vs:=[_,_,_]) rfl (aA rfl) (bF rfl .di (ve (by assumption)) (aN ag.Rat rfl rfl (vs:=[_,_,_]) rfl (aA rfl) (bF rfl .di (ve (by assumption)) (fG sz.Rat rfl rfl rfl rfl rfl (aA rfl) (cells2:=[_,_,_]) rfl (fG sz.Rat rfl rfl rfl rfl rfl (aA rfl) (cells2:=[_,_,_]) rfl (OL.nil (AW.seq ?_)))))))
 refine AW.dg 1 [0,1,2,3,4,5,6,7,8,9,10,11,12,13,14,15,16] au hE rfl (by kernel_rfl) (OI.aS (os:=[_,_,_,_,_,_,_,_,_,_,_,_,_,_,_,_,_]) rfl ?_)
 refine aV fd.qE rfl rfl (aG ce.bool rfl rfl rfl (aV fd.qE rfl rfl (aG ce.bool rfl rfl rfl (neb bt.bool rfl rfl (aV fd.pW rfl rfl (aG ce.aF rfl rfl rfl (aV fd.pW rfl rfl ?_)))))));refine aG ce.aF rfl rfl rfl (bF rfl .gy (tV (a:=x.q.num.natAbs) (b:=y.q.num.natAbs) (by omega) (by omega)) (aN ag.Rat rfl rfl (vs:=[_,_,_]) rfl (aA rfl) (bF rfl .di (Ar) (aN ag.Rat rfl rfl (vs:=[_,_,_]) rfl (aA rfl) (bF rfl .di (Ar) (bF rfl .gy (tV (a:=x.q.den) (b:=y.q.den) (by omega) (by omega)) (bF rfl .xf (Bg (s:=(decide (x.q.num<0) != decide (y.q.num<0))) (by omega) (by omega) dd0) ?_)))))))
 rw[<- hp];exact fG sz.Rat rfl rfl rfl rfl rfl (aA rfl) (cells2:=[_,_,_]) rfl (OL.nil (AW.ret (aO.r ⟨_,.dL rfl rfl ag.Rat (aA rfl) .nil,.ag (.cons (.le vR) (.cons (.le vR) (.cons (.le vR) .nil)))⟩)))
theorem Eu {x y:Rat}(hx:sz x<=68719476736)(hy:sz y<=68719476736):aj P F.A8 [vQ x,vQ y] (vQ (x*y)):=by
 have h:=aD0 (x:=fP x) (y:=fP y) (jo (by omega)) (jo (by omega))
 rw[kz,kz] at h;exact h

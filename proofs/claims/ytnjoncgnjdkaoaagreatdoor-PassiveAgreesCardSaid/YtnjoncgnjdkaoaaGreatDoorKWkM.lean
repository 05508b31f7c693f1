/-
  Walks of package rows, part 2: the machine of the turned words (printed by mk2.py).
-/
import Derived.Test.YtnjoncgnjdkaoaaGreatDoorKMod130
import Derived.Test.YtnjoncgnjdkaoaaGreatDoorKWkL
set_option maxRecDepth 8000
set_option maxHeartbeats 1600000
set_option linter.unusedVariables false
set_option linter.unusedSimpArgs false
namespace Go.Proofs.YtnjoncgnjdkaoaaGreatDoor
open Go Go.AL
theorem fc.vV:Cf P T.Auto 3 4:=⟨by kernel_rfl⟩
theorem U3 {n i:Nat}(h:i<n):(List.replicate n (0:Rat)).take (i+1)=(List.replicate n (0:Rat)).take i++[0]:=by
 rw[List.take_replicate,List.take_replicate,Nat.min_eq_left h,Nat.min_eq_left (Nat.le_of_lt h),List.replicate_succ']
theorem ap6 {l:List Rat}{i:Nat}(hi:i<l.length):(l.map dW)[i]? = some (dW (l.getD i 0)):=by rw[List.getElem?_map,ig,lu hi];rfl
theorem aF3 {v out:List Rat}{s:Nat}{x:bH}(h:x.l=s):NM v s out x=out.set x.t (out.getD x.t 0+v.getD x.f 0*x.q):=if_pos h
theorem aF4 {v out:List Rat}{s:Nat}{x:bH}(h:¬ x.l=s):NM v s out x=out:=if_neg h
theorem RN {s:Nat}{w:List Int}(hw:kC s w)(hl:w.length<=256)(hs:1<=s/\s<=32):aj P F.nI [.d (ints w),.d (dI s)] (.d (dB true)) :=
 nI (h:=⟨s,0,0,[],[],[],[],[],[]⟩) ⟨hl,hw⟩ hs
theorem ZX (a:Au):Ia (ja a) a:=⟨rfl,rfl,rfl,rfl,λ_ _ _=>Fh⟩
theorem U4 (a:Au):iD (ja a)=iD a:=(ZX a).ser
theorem Ir {a:Au}(h:a.Ok):(ja a).Ok:=⟨h.Gi,h.ini,h.fin,gZ.tidy (p:=λf l t=>f<a.st/\t<a.st/\1<=l/\l<=a.sym) h.arc⟩
structure be0 (a:Au) (v:List Rat) (s:Nat):Prop where
 zv:∀ j,sz (v.getD j 0)<=17179869184
 zq:∀ x,x ∈ a.aS->sz x.q<=17179869184
 zs:∀ i j,sz ((jc a.st v s (a.aS.take i)).getD j 0)<=17179869184
structure aS9 (a:Au) (w:List Int):Prop where
 st:∀ k,k<w.length->be0 a (Ji a (w.take k)) (w.getD k 0).toNat
 zv:∀ j,sz ((Ji a w).getD j 0)<=17179869184
 zf:∀ j,sz (a.fin.getD j 0)<=17179869184
 zd:∀ i,i<=a.st->sz (EI (Ji a w) a.fin i)<=17179869184
theorem aT0 {a:Au}(hn:a.st<=64):jd P F.AX [zL a] a.st T.aA 8 ((List.replicate a.st (0:Rat)).map dW):=by
 have hzl:(List.replicate a.st (0:Rat)).length=a.st:=List.length_replicate;refine jd.intro fn.AX (by rfl) (by rfl) (aB (by rfl)) 2 rfl λE hE=>(AW.sg hE rfl (iI rfl rfl λb1=>(oK rfl (OL.nil (AW.sg hE rfl (oK rfl (OL.nil ?_)))))))
 refine AW.seq (AW.seq (AW.own 3 13 T.aA 8 rfl rfl (AW.rg hE rfl (aW fd.mF rfl rfl (aG ce.int rfl rfl rfl (ai rfl (OL.nil ?_)))))));refine AW.block ?_;refine AW.aV (α:=Nat × Nat × Nat) [(1,_),(2,_),(5,_)] [(1,_)] (λ(i,bq,cq)=>[(3,.bF 13 bq i cq),(6,.d (dI i))]) (λ(i,bq,cq)=>[(13,.row bq cq T.aA 8 (((List.replicate a.st (0:Rat)).take i).map dW))]) (λ(i,bq,cq)=>i<=a.st) (λ(i,bq,cq)=>a.st-i) (0,0,0) (.cons (gB rfl) (.cons (Ea rfl) (.cons (bK rfl) .nil))) (.cons (iR rfl) .nil) ⟨Nat.zero_le _,.iq,.cons rfl .nil⟩ ?_
 rintro⟨i,bq,cq⟩ h1
 have h1:i<=a.st:=h1;refine AW.sg hE rfl (aY rfl rfl rfl (OL.nil (AW.seq (AW.cond rfl (λh7=>?_) (λh7=>?_)))))
 .try simp only[dX] at h7
  refine AW.skip (AW.seq (AW.block (AW.rg hE rfl (jq rfl (aW fd.iZ rfl rfl (aO ag.Ring rfl rfl (vs:=[_,_]) rfl (aB rfl) (bJ rfl vL (PO) ?_)))))));refine zX (y:=dW 0) sl.aU Nu rfl (by decide) ?_
  refine Ce sl.aU rfl rfl rfl (by rw[dJ,List.length_take];omega) (VC.d _) (λy hy=>by rw[lW hy];rfl) (by simp only[oU];omega) (by simp only[oU];omega) (.inr rfl) (ys:=((List.replicate a.st (0:Rat)).take (i+1)).map dW) (by rw[U3 (by omega),List.map_append];rfl) (n2:=i+1) rfl λb13 c13=>?_
  exact tJ rfl (OL.nil (AW.rg hE rfl (aI rfl rfl (by omega) (ai rfl (OL.nil (AW.again (x:=(i,bq,cq)) (i+1,b13,c13) (by (simp only[];omega)) ⟨by omega,Knows.app .Ah .iq,dw.app (.cons rfl .nil) (.cons rfl .nil)⟩))))))
 .try simp only[dX] at h7
  refine AW.exit (AW.seq ?_);obtain rfl:i=a.st:=by omega
  have e9:(List.replicate a.st (0:Rat)).take a.st=(List.replicate a.st (0:Rat)):=List.take_of_length_le (by omega)
  exact AW.rg hE rfl (jq rfl (tJ rfl (OL.nil (AW.ret ⟨.inr rfl,13,bq,cq,((List.replicate a.st (0:Rat)).take a.st).map dW,rfl,rfl,by rw[e9,dJ];omega,by rw[e9];exact List.take_of_length_le (by rw[dJ];omega)⟩))))
theorem be1 {a:Au}{v:List Rat}{s:Nat}(h:a.Ok)(hv:v.length=a.st)(zz:be0 a v s)(s2:a.st<=64)(e3:a.aS.length<=2048):aj P F.Dp [zL a,.d (wG v),.d (dI s)] (.d (wG (jc a.st v s a.aS))):=by
 refine aj.intro fn.Dp (by rfl) (by rfl) (aB (by rfl)) λE hE=>(AW.sg hE rfl (iI rfl rfl λb3=>(oK rfl (OL.nil (AW.sg hE rfl (aO ag.Auto rfl rfl (vs:=[_,_,_,_,_,_,_]) rfl (aB rfl) (clR rfl .bZ (aT0 (a:=a) s2) rfl λb11 c11=>?_)))))))
 refine tJ rfl (OL.nil (AW.seq (AW.sg hE rfl (aW fd.jJ rfl rfl (aG ce.dH rfl rfl rfl (fJ sl.dH rfl rfl (ai rfl ?_)))))));refine OL.nil (AW.block ?_);refine AW.aV (α:=Nat) [(1,_),(2,_),(3,_),(6,_),(7,_),(13,_),(14,_)] [(3,_)] (λi=>[(15,.d (dI i))]) (λi=>[(11,.row b11 c11 T.aA 8 ((jc a.st v s (a.aS.take i)).map dW))]) (λi=>i<=a.aS.length) (λi=>a.aS.length-i) 0 (.cons (bK rfl) (.cons (bK rfl) (.cons (gB rfl) (.cons (Ea rfl) (.cons (yj rfl) (.cons (bK rfl) (.cons (bK rfl) .nil))))))) (.cons (iR rfl) .nil) ⟨Nat.zero_le _,.bZ,.cons rfl .nil⟩ ?_
 rintro i h1
 have h1:i<=a.aS.length:=h1;have hsl:(jc a.st v s (a.aS.take i)).length=a.st:=wY;refine AW.sg hE rfl (aY rfl rfl rfl (OL.nil (AW.seq (AW.cond rfl (λh16=>?_) (λh16=>?_)))))
 .try simp only[dX] at h16
  refine AW.skip (AW.seq (AW.block (AW.seq ?_)));have hm:=getD_mem (l:=a.aS) (i:=i) (by omega) default
  obtain⟨hx1,hx2,hx3,hx4⟩:=h.arc (a.aS.getD i default) hm;have hxz:=zz.zq (a.aS.getD i default) hm;have hz1:=zz.zv (a.aS.getD i default).f;have hz2:=zz.zs i (a.aS.getD i default).t;have hz3:=mD (v.getD (a.aS.getD i default).f 0) (a.aS.getD i default).q;refine AW.rg hE rfl (fO sl.dH default rfl rfl (by omega) rfl rfl (jH ag.pO rfl (vs:=[_,_,_,_,_,_,_,_,_,_,_]) rfl (aB rfl) (al z.pO rfl λb9=>(eH sz.pO rfl rfl rfl rfl rfl (aB rfl) (cells2:=[_,_,_,_,_,_,_,_,_,_,_]) rfl (OL.nil (AW.sg hE rfl (aW fd.AY rfl rfl ?_)))))))
  refine aG ce.int rfl rfl rfl (ai rfl (dR rfl rfl rfl (OL.nil (AW.cond rfl (λhc=>?_) (λhc=>?_)))))
  .have hc:(a.aS.getD i default).l=s:=by have:=lq hc;omega
   refine AW.dg 1 [0,1,2,3,4,5,6,7,8,9,10,11,12,13,14,15,16,17,18,19,20,21,22] ay hE rfl (by kernel_rfl) (OI.aK (os:=[_,_,_,_,_,_,_,_,_,_,_,_,_,_,_,_,_,_,_,_,_,_,_]) rfl ?_)
   refine jq rfl (aW fd.zD rfl rfl (aG ce.int rfl rfl rfl (aW fd.iZ rfl rfl (aO ag.Ring rfl rfl (vs:=[_,_]) rfl (aB rfl) (jq rfl (aW fd.zD rfl rfl (aG ce.int rfl rfl rfl ?_)))))));refine iM sl.aU rfl rfl (by omega) ?_
   refine FK ag.aA (by decide) rfl rfl (ap6 (show (a.aS.getD i default).t<(jc a.st v s (a.aS.take i)).length by omega)) (vs:=[.d (dB (fZ ((jc a.st v s (a.aS.take i)).getD (a.aS.getD i default).t 0)).neg),.d (aH (fZ ((jc a.st v s (a.aS.take i)).getD (a.aS.getD i default).t 0)).num),.d (aH (fZ ((jc a.st v s (a.aS.take i)).getD (a.aS.getD i default).t 0)).den),.d (dI 0),.d (dB false),.d (dU 0),.d (.sl []),.d (.sl [])]) rfl (aB rfl) ?_
   refine aW fd.iZ rfl rfl (aO ag.Ring rfl rfl (vs:=[_,_]) rfl (aB rfl) (ai rfl (aW fd.zC rfl rfl (aG ce.int rfl rfl rfl (fO sl.aU 0 rfl rfl (by omega) rfl rfl (jH ag.aA rfl (vs:=[_,_,_,_,_,_,_,_]) rfl (aB rfl) (aW fd.uS rfl rfl ?_)))))))
   refine aO ag.aA rfl rfl (vs:=[_,_,_,_,_,_,_,_]) rfl (aB rfl) (bJ rfl vL (ak1 (p:=v.getD (a.aS.getD i default).f 0) (q:=(a.aS.getD i default).q) (by omega) (by omega)) (bJ rfl vL (PS (p:=(jc a.st v s (a.aS.take i)).getD (a.aS.getD i default).t 0) (q:=v.getD (a.aS.getD i default).f 0*(a.aS.getD i default).q) (by omega) (by omega)) (iM sl.aU rfl rfl (by omega) ?_)))
   refine GI sz.aA rfl (d:=dW ((jc a.st v s (a.aS.take i)).getD (a.aS.getD i default).t 0+v.getD (a.aS.getD i default).f 0*(a.aS.getD i default).q)) Nu rfl rfl (by rw[dJ];omega) (es2:=((jc a.st v s (a.aS.take i)).set (a.aS.getD i default).t ((jc a.st v s (a.aS.take i)).getD (a.aS.getD i default).t 0+v.getD (a.aS.getD i default).f 0*(a.aS.getD i default).q)).map dW) (by rw[List.map_set]) ?_
   refine OL.nil (AW.rg hE rfl (aI rfl rfl (by omega) (ai rfl (OL.nil ?_))))
   exact AW.again (x:=i) (i+1) (by omega) ⟨by omega,Knows.app .rq7 .bZ,dw.app (.cons rfl .nil) (.cons (by rw[DI (by omega),aF3 hc];rfl) .nil)⟩
  .have hc:¬ (a.aS.getD i default).l=s:=by have:=nS hc;omega
   refine AW.skip (AW.rg hE rfl (aI rfl rfl (by omega) (ai rfl (OL.nil ?_))))
   exact AW.again (x:=i) (i+1) (by omega) ⟨by omega,Knows.app .rq7 .bZ,dw.app (.cons rfl .nil) (.cons (by rw[DI (by omega),aF4 hc];rfl) .nil)⟩
 .try simp only[dX] at h16
  refine AW.exit (AW.seq ?_);obtain rfl:i=a.aS.length:=by omega
  exact AW.rg hE rfl (jq rfl (tJ rfl (OL.nil (AW.ret (aP.r ⟨_,.tmp rfl .nil,RO.all rfl rfl (by rw[dJ,wY]) (by rw[List.take_length])⟩)))))
theorem aT1 {a:Au}(h:a.Ok)(za:a.Sz 134217728 20)(s1:a.sym<=32)(s2:a.st<=64){w:List Int}(hw:kC a.sym w)(hl:w.length<=256):aj P F.uQ [zL a,.d (ints w)] (.jS [zL (ja a),.d (dI 0)]):=by
 have e0:=h.Gi;have e1:=h.ini;have e2:=h.fin;have e3:=za.num;have tl:=BP a.aS;refine aj.intro fn.uQ (by rfl) (by rfl) (aB (by rfl)) λE hE=>(AW.sg hE rfl (iI rfl rfl λb2=>(al z.Auto rfl λb4=>(aF rfl (OL.nil (AW.sg hE rfl (aO ag.Auto rfl rfl (vs:=[_,_,_,_,_,_,_]) rfl (aB rfl) ?_)))))))
 refine bJ rfl .bZ (Rx h za s1 s2) (zW rfl (ex rfl rfl (ex rfl rfl (al z.Auto rfl λb6=>(eH sz.Auto rfl rfl rfl rfl rfl (aB rfl) (cells2:=[_,_,_,_,_,_,_]) rfl (aF rfl (OL.nil ?_)))))));refine AW.seq (AW.block (AW.sg hE rfl (ai rfl (eG rfl rfl (c:=false) (by exact lY (by omega)) (aF rfl (OL.nil (qW rfl ?_)))))))
 refine AW.sg hE rfl (aW fd.jJ rfl rfl (aG ce.dH rfl rfl rfl (bJ rfl vL (Gv (l:=(ja a).aS) (f:=F.qI) (caps:=[]) (p:=λ_=>false) (λx hx=>Yg (Gu h x hx)) (by show (dZ a.aS).length<=_;omega)) ?_)))
 rw[any_false λx _=>rfl];refine aF rfl (OL.nil (qW rfl ?_));refine AW.sg hE rfl (ai rfl (aW fd.qp rfl rfl (aG ce.int rfl rfl rfl (bJ rfl vL (RN (s:=a.sym) hw hl ⟨e0,s1⟩) (nt rfl (aF rfl (OL.nil ?_)))))));refine qW rfl ?_;refine AW.skip (AW.sg hE rfl (aO ag.Auto rfl rfl (vs:=[_,_,_,_,_,_,_]) rfl (aB rfl) (eH sz.Auto rfl rfl rfl rfl rfl (aB rfl) (cells2:=[_,_,_,_,_,_,_]) rfl (aF rfl (OL.nil ?_)))));exact AW.ret (aP.r ⟨_,.dV rfl rfl ag.Auto (aB rfl) (.tmp rfl .nil),_,.cons (.ag (.cons (.le vR) (.cons (.le vR) (.cons (.le vR) (.cons (.le vR) (.cons (.le vR) (.cons (.le vR) (.cons (.le vR) .nil)))))))) (.cons (.le vR) .nil),rfl⟩)
theorem ap7 {a:Au}(h:a.Ok)(za:a.Sz 134217728 20)(s1:a.sym<=32)(s2:a.st<=64){w:List Int}(hw:kC a.sym w)(hl:w.length<=256)(zz:aS9 (ja a) w):aj P F.xB [zL a,.d (ints w)] (.jS [.d (wG (Ji (ja a) w)),.d (dI 0)]):=by
 have e0:=h.Gi;have e1:=h.ini;have e2:=h.fin;have e3:=za.num;have hn:=Ir h;have tl:=BP a.aS;have e4:(ja a).aS.length<=2048:=by show (dZ a.aS).length<=_;omega
 refine aj.intro fn.xB (by rfl) (by rfl) (aB (by rfl)) λE hE=>(AW.sg hE rfl (iI rfl rfl λb2=>(oK rfl (aF rfl (OL.nil (AW.sg hE rfl (aO ag.Auto rfl rfl (vs:=[_,_,_,_,_,_,_]) rfl (aB rfl) ?_)))))))
 refine ai rfl (bJ rfl vL (aT1 h za s1 s2 hw hl) (zW rfl (ex rfl rfl (ex rfl rfl (eH sz.Auto rfl rfl rfl rfl rfl (aB rfl) (cells2:=[_,_,_,_,_,_,_]) rfl (aF rfl (OL.nil ?_)))))));refine AW.seq (AW.sg hE rfl (ai rfl (eG rfl rfl (c:=false) (by exact lY (by omega)) (OL.nil (qW rfl ?_)))))
 refine AW.skip (AW.sg hE rfl (aW fd.vV rfl rfl (aG ce.aU rfl rfl rfl (aF rfl (OL.nil (AW.seq (AW.sg hE rfl ?_)))))));refine ai rfl (fJ sl.ints rfl rfl (ai rfl (OL.nil (AW.block ?_))));refine AW.aV (α:=Nat) [(2,_),(4,_),(5,_),(21,_),(22,_)] [(2,_)] (λi=>[(7,.d (wG (Ji (ja a) (w.take i)))),(23,.d (dI i))]) (λi=>[]) (λi=>i<=w.length) (λi=>w.length-i) 0 (.cons (gB rfl) (.cons (Ea rfl) (.cons (bK rfl) (.cons (bK rfl) (.cons (bK rfl) .nil))))) (.cons (iR rfl) .nil) ⟨Nat.zero_le _,.iq,.nil⟩ ?_
 rintro i h1
 have h1:i<=w.length:=h1;refine AW.sg hE rfl (aY rfl rfl rfl (OL.nil (AW.seq (AW.cond rfl (λQG=>?_) (λQG=>?_)))))
 .try simp only[dX] at QG
  refine AW.skip (AW.seq (AW.block (AW.seq ?_)));have hx:=hw (w.getD i 0) (getD_mem (by omega) 0)
  refine AW.rg hE rfl (fO sl.ints 0 rfl rfl (by omega) rfl rfl (iH ce.int rfl (aF rfl (OL.nil (AW.rg hE rfl (aO ag.Auto rfl rfl (vs:=[_,_,_,_,_,_,_]) rfl (aB rfl) (ai rfl ?_)))))))
  refine ai rfl (bJ rfl (.cons vR (.cons vR (.cons (bG.int (by omega)) .nil))) (be1 (a:=(ja a)) (v:=Ji (ja a) (w.take i)) (s:=(w.getD i 0).toNat) hn (KL hn _) (zz.st i (by omega)) s2 e4) (aF rfl (OL.nil (AW.rg hE rfl (aI rfl rfl (by omega) (ai rfl (OL.nil ?_)))))))
  exact AW.again (x:=i) (i+1) (by omega) ⟨by omega,Knows.app .DR (.cons (by rw[Ik (by omega)];exact bG.refl _) .bZ),dw.app (.cons rfl .nil) (.nil)⟩
 .try simp only[dX] at QG
  refine AW.exit (AW.seq ?_);obtain rfl:i=w.length:=by omega
  exact AW.rg hE rfl (ai rfl (aF rfl (aF rfl (OL.nil (AW.ret (aP.r ⟨_,.tmp rfl (.tmp rfl .nil),_,.cons (.le (by rw[List.take_length];exact bG.refl _)) (.cons (.le vR) .nil),rfl⟩))))))
theorem bp7 {v u:List Rat}{n:Nat}(hv:v.length=n)(hu:u.length=n)(hn:n<=64)(zv:∀ i,sz (v.getD i 0)<=17179869184)(zu:∀ i,sz (u.getD i 0)<=17179869184)(zd:∀ i,i<=n->sz (EI v u i)<=17179869184):aj P F.EX [l7,.d (wG v),.d (wG u)] (vW (EI v u n)):=by
 refine aj.intro fn.EX (by rfl) (by rfl) (aB (by rfl)) λE hE=>(AW.sg hE rfl (iI rfl rfl λb3=>(al z.aA rfl λb6=>(OL.nil (AW.sg hE rfl (aO ag.Ring rfl rfl (vs:=[_,_]) rfl (aB rfl) (bJ rfl vL (PO) ?_)))))))
 refine al z.aA rfl λb7=>(eH sz.aA rfl rfl rfl rfl rfl (aB rfl) (cells2:=[_,_,_,_,_,_,_,_]) rfl (OL.nil (AW.seq (AW.sg hE rfl (ai rfl (fJ sl.aU rfl rfl (ai rfl ?_)))))));refine OL.nil (AW.block ?_);refine AW.aV (α:=Nat) [(1,_),(2,_),(3,_),(6,_),(7,_),(12,_)] [(3,_),(6,_)] (λi=>[(13,.d (dI i))]) (λi=>[(7,.box b7 T.aA [.d (dB (fZ (EI v u i)).neg),.d (aH (fZ (EI v u i)).num),.d (aH (fZ (EI v u i)).den),.d (dI 0),.d (dB false),.d (dU 0),.d (.sl []),.d (.sl [])])]) (λi=>i<=n) (λi=>n-i) 0 (.cons (bK rfl) (.cons (bK rfl) (.cons (gB rfl) (.cons (gB rfl) (.cons (gB rfl) (.cons (bK rfl) .nil)))))) (.cons (iR rfl) (.cons (iR rfl) .nil)) ⟨Nat.zero_le _,.bZ,.cons rfl .nil⟩ ?_
 rintro i h1
 have h1:i<=n:=h1;have z1:=zv i;have z2:=zu i;have z3:=mD (v.getD i 0) (u.getD i 0);have z4:=zd i h1;refine AW.sg hE rfl (aY rfl rfl rfl (OL.nil (AW.seq (AW.cond rfl (λBf=>?_) (λBf=>?_)))))
 .try simp only[dX] at Bf
  refine AW.skip (AW.seq (AW.block (AW.sg hE rfl (ai rfl (aF rfl (OL.nil (AW.dg 1 [0,1,2,3,4,5,6,7,8,9,10,11,12,13] ay hE rfl (by kernel_rfl) (OI.aK (os:=[_,_,_,_,_,_,_,_,_,_,_,_,_,_]) rfl ?_))))))))
  refine aO ag.Ring rfl rfl (vs:=[_,_]) rfl (aB rfl) (aO ag.aA rfl rfl (vs:=[_,_,_,_,_,_,_,_]) rfl (aB rfl) (aO ag.Ring rfl rfl (vs:=[_,_]) rfl (aB rfl) (ai rfl (ai rfl (fO sl.aU 0 rfl rfl (by omega) rfl rfl (jH ag.aA rfl (vs:=[_,_,_,_,_,_,_,_]) rfl (aB rfl) (ai rfl ?_)))))))
  refine ai rfl (fO sl.aU 0 rfl rfl (by omega) rfl rfl (jH ag.aA rfl (vs:=[_,_,_,_,_,_,_,_]) rfl (aB rfl) (bJ rfl vL (ak1 (p:=v.getD i 0) (q:=u.getD i 0) (by omega) (by omega)) (bJ rfl vL (PS (p:=(EI v u i)) (q:=v.getD i 0*u.getD i 0) (by omega) (by omega)) (eH sz.aA rfl rfl rfl rfl rfl (aB rfl) (cells2:=[_,_,_,_,_,_,_,_]) rfl (OL.nil (AW.rg hE rfl ?_)))))))
  refine aI rfl rfl (by omega) (ai rfl (OL.nil ?_))
  exact AW.again (x:=i) (i+1) (by omega) ⟨by omega,Knows.app .RZ .bZ,dw.app (.cons rfl (.cons rfl .nil)) (.cons rfl .nil)⟩
 .try simp only[dX] at Bf
  refine AW.exit (AW.seq ?_);obtain rfl:i=n:=by omega
  refine AW.rg hE rfl (aO ag.aA rfl rfl (vs:=[_,_,_,_,_,_,_,_]) rfl (aB rfl) (eH sz.aA rfl rfl rfl rfl rfl (aB rfl) (cells2:=[_,_,_,_,_,_,_,_]) rfl (OL.nil ?_)));exact AW.ret (aP.r ⟨_,.dV rfl rfl ag.aA (aB rfl) .nil,.ag (.cons (.le vR) (.cons (.le vR) (.cons (.le vR) (.cons (.le vR) (.cons (.le vR) (.cons (.le vR) (.cons (.le vR) (.cons (.le vR) .nil))))))))⟩)
theorem aF5 {a:Au}(h:a.Ok)(za:a.Sz 134217728 20)(s1:a.sym<=32)(s2:a.st<=64){w:List Int}(hw:kC a.sym w)(hl:w.length<=256)(zz:aS9 (ja a) w):aj P F.iw [zL a,.d (ints w)] (.jS [vW (iD a w),.d (dI 0)]):=by
 have hn:=Ir h;have e9:EI (Ji (ja a) w) a.fin a.st=iD a w:=by
  have h9:=UE hn (u:=w) hw;rw[U4] at h9;exact h9
 refine aj.intro fn.iw (by rfl) (by rfl) (aB (by rfl)) λE hE=>(AW.sg hE rfl (iI rfl rfl λb2=>(al z.aA rfl λb4=>(aF rfl (OL.nil (AW.sg hE rfl (aO ag.Auto rfl rfl (vs:=[_,_,_,_,_,_,_]) rfl (aB rfl) ?_)))))))
 refine ai rfl (bJ rfl vL (ap7 h za s1 s2 hw hl zz) (zW rfl (ex rfl rfl (ex rfl rfl (aF rfl (aF rfl (OL.nil ?_)))))));refine AW.seq (AW.sg hE rfl (ai rfl (eG rfl rfl (c:=false) (by exact lY (by omega)) (OL.nil (qW rfl ?_)))))
 refine AW.skip (AW.sg hE rfl (aW fd.iZ rfl rfl (aO ag.Ring rfl rfl (vs:=[_,_]) rfl (aB rfl) (ai rfl (aW fd.wR rfl rfl (aG ce.aU rfl rfl rfl (bJ rfl vL (bp7 (v:=Ji (ja a) w) (u:=a.fin) (n:=a.st) (KL hn w) h.fin s2 zz.zv zz.zf zz.zd) ?_)))))));rw[e9];refine eH sz.aA rfl rfl rfl rfl rfl (aB rfl) (cells2:=[_,_,_,_,_,_,_,_]) rfl (aF rfl (OL.nil ?_));exact AW.ret (aP.r ⟨_,.dV rfl rfl ag.aA (aB rfl) (.tmp rfl .nil),_,.cons (.ag (.cons (.le vR) (.cons (.le vR) (.cons (.le vR) (.cons (.le vR) (.cons (.le vR) (.cons (.le vR) (.cons (.le vR) (.cons (.le vR) .nil))))))))) (.cons (.le vR) .nil),rfl⟩)
theorem ap8 {x y:V}{d:D}(h:x=y)(hd:VD y d):VD x d:=h ▸ hd
theorem ap9 {x y:V}{d:D}(h:x=y)(hd:VC y d):VC x d:=h ▸ hd
abbrev bp8:D:=.sc (.slice none 0 0)
theorem raw.bQ:(P.info? T.bQ).bind (λi=>i.zero.map λz=>z.cells.toList)=some [.slice none 0 0]:=by kernel_rfl
theorem aT2 {α:Type}{l:List α}{i:Nat}{x:α}(h:l[i]? = some x):l.set i x=l:=by
 refine List.ext_getElem? λk=>?_;rw[List.getElem?_set]
 split
 .rename_i e;subst e;rw[h]
  split
  .rfl
  .rename_i e;rw[List.getElem?_eq_none (by omega)] at h;cases h
 .rfl
def be3 (m:dP)(s i:Nat):List Rat:=((dA m).qL.getD s []).getD i []
def rowT (m:dP)(s i:Nat):List D:=kZ bp8 (λi=>iQ (be3 m s i)) m.n i
theorem Yq:VCs [.mt] (vz []).cells:=.cons VC.mt .nil
theorem ZY {f:Nat->Option iE}{d e:Nat}{b:Option iE}(hne:e≠d)(h:f e=none):upd (upd f d b) e none=upd f d b:=by
 funext t;by_cases ht:t=e
 .subst ht;rw[upd_same,upd_ne _ _ hne,h]
 .rw[upd_ne _ _ ht]
theorem aT3 {id b n c:Nat}(h0:n=0):VD (.bF id b n c) (.sl []):=λF v h=>by
 subst h0;cases h with
 | bF ha hc=>exact .sl (es:=[]) (sz:=0) (us:=λ_=>default) rfl hc (λe he=>by cases he) (λi hi=>by omega) (λi hi=>by omega) (λi d hd=>by cases hd)
theorem Xa {k s:Nat}(hs:s<k):((List.replicate k ([]:List (List Rat))).map vz).set s (.sl [])=(List.replicate k []).map vz:=by
 refine List.ext_getElem (by simp) λi h1 h2=>?_
 rw[List.getElem_set]
 split
 .simp[vz]
 .rfl

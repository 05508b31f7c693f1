/-
  Walks of layers 5 and 8 of the specification: words, weights of words (printed by mk2.py).
-/
import Derived.Test.YtnjoncgnjdkaoaaGreatDoorKPvD
set_option maxHeartbeats 1600000
set_option linter.unusedVariables false
set_option linter.unusedSimpArgs false
namespace Go.Proofs.YtnjoncgnjdkaoaaGreatDoor
open Go Go.AL
abbrev qB (b:Nat)(L:List Int)(a:Nat):iE:=.box b T.Tape [.d (ints L),.d (dI a)]
theorem jg {v m:Int}(hm:1<=m/\m<=4611686018427387904):aj P F.jg [.d (dI v),.d (dI m)] (.d (dI (within v m))):=by
 refine aj.intro fn.jg (by rfl) (by rfl) (aB (by rfl)) λE hE=>(AW.sg hE rfl (aF rfl (OL.nil (AW.seq (AW.sg hE rfl (ai rfl (aY rfl rfl rfl ?_)))))))
 refine OL.nil (AW.cond rfl (λhno=>absurd hno (by simp;omega)) (λ_=>?_))
 refine AW.skip (AW.sg hE rfl (ai rfl (ai rfl (bo rfl rfl (aZ9 (by omega)) ?_))))
 have ht:=tmod_lt (v:=v) hm.1;refine aF rfl (OL.nil (AW.seq (AW.sg hE rfl (ai rfl (aY rfl rfl rfl (OL.nil (AW.cond rfl (λh=>?_) (λh=>?_))))))))
 .try simp only[dX] at h
  refine AW.rg hE rfl (ai rfl (ai rfl (aI rfl rfl (by omega) (aF rfl (OL.nil (AW.sg hE rfl (ai rfl ?_)))))))
  exact aF rfl (OL.nil (AW.ret (aP.r ⟨_,.tmp rfl .nil,.le (bG.int (V6 hm.1 h))⟩)))
 .try simp only[dX] at h
  exact AW.skip (AW.sg hE rfl (ai rfl (aF rfl (OL.nil (AW.ret (aP.r ⟨_,.tmp rfl .nil,.le (bG.int (V5 hm.1 h))⟩))))))
theorem xe {L:List Int}{a b:Nat}{m:Int}(hm:1<=m/\m<=4611686018427387904)(nL:L.length<=9223372036854775807):eX P F.uw [.ptr 1000 b 0,.d (dI m)] (mem1 1000 (qB b L a)) (.d (dI (wF L a m))) (mem1 1000 (qB b L (jF L a))):=by
 refine eX.intro fn.uw (by rfl) (by rfl) (aB (by rfl)) λE hE=>(AW.sg hE rfl (aF rfl (OL.nil (AW.seq (AW.seq (AW.dg 1 [0,1,2,3,4,5,6,7,8,9] ay hE rfl (by kernel_rfl) (OI.aK (os:=[_,_,_,_,_,_,_,_,_,_]) rfl ?_)))))))
 refine Aa rfl (Gf rfl (aW fd.L6 rfl rfl (aG ce.int rfl rfl rfl (Aa rfl (Gf rfl (aW fd.Wp rfl rfl (aG ce.ints rfl rfl rfl ?_)))))));refine fJ sl.ints rfl rfl (qY rfl rfl rfl (OL.nil (AW.cond rfl (λh=>?_) (λh=>?_))))
 .have h:=lq h;rw[show wF L a m=0 from if_pos (by omega),show jF L a=a from if_pos (by omega)]
  exact AW.sg hE rfl (aF rfl (OL.nil (AW.ret ⟨⟨_,.tmp rfl .nil,.le vR⟩,dh rfl⟩)))
 .have h:=nS h;rw[show wF L a m=within (L.getD a 0) m from if_neg (by omega),show jF L a=a+1 from if_neg (by omega)]
  refine AW.skip (AW.sg hE rfl (Aa rfl (Gf rfl (aW fd.L6 rfl rfl (aG ce.int rfl rfl rfl (aI rfl rfl (by omega) (Gf rfl ?_)))))))
  refine aW fd.L6 rfl rfl (eH sz.int rfl rfl rfl rfl rfl (aB rfl) rfl (OL.nil (AW.seq (AW.dg 1 [0,1,2,3,4,5,6,7,8,9,10,11,12,13] ay hE rfl (by kernel_rfl) (OI.aK (os:=[_,_,_,_,_,_,_,_,_,_,_,_,_,_]) rfl ?_)))))
  refine Aa rfl (Gf rfl (aW fd.Wp rfl rfl (aG ce.ints rfl rfl rfl (Aa rfl (Gf rfl (aW fd.L6 rfl rfl (aG ce.int rfl rfl rfl ?_)))))));exact gI rfl rfl (by omega) (LJ a sl.ints 0 rfl rfl (by omega) (by omega) rfl rfl (iH ce.int rfl (ai rfl (bJ rfl .iq (jg (by assumption)) (aF rfl (OL.nil (AW.ret ⟨⟨_,.tmp rfl .nil,.le vR⟩,dh rfl⟩)))))))
theorem Xj {n i:Nat}(h:i<n):(List.replicate n (0:Rat)).take (i+1)=(List.replicate n (0:Rat)).take i++[0]:=by
 rw[List.take_replicate,List.take_replicate,Nat.min_eq_left h,Nat.min_eq_left (Nat.le_of_lt h),List.replicate_succ']
theorem aG9 {v w:List Rat}{B i:Nat}(hv:∀ i,sz (v.getD i 0)<=B)(hw:∀ i,sz (w.getD i 0)<=6):sz (EI v w i)<=1+i*(B+6+1):=TR i λj _=>by
 have:=mD (v.getD j 0) (w.getD j 0);have:=hv j;have:=hw j;omega
structure Au.Wt (a:Au):Prop where
 ok:a.Ok
 sz:a.Sz 6 20
 s2:a.sym<=32
 st:a.st<=64
theorem Au.Wt.wide {a:Au}(f:Au.Wt a):a.Sz 134217728 20:=f.sz.up (by decide) (Nat.le_refl _)
theorem H7 {a:Au}(f:Au.Wt a){v:List Rat}{B s i j:Nat}(hv:∀ i,sz (v.getD i 0)<=B):sz ((jc a.st v s (a.aS.take i)).getD j 0)<=20*(B+7)+1:=by
 have h2:(a.aS.take i).length<=a.aS.length:=by rw[List.length_take];exact Nat.min_le_right ..
 exact UF hv (λx hx=>⟨(f.ok.arc x (List.mem_of_mem_take hx)).2.1,f.sz.arc x (List.mem_of_mem_take hx)⟩) (Nat.le_trans h2 f.sz.num)
theorem aU7 {v out:List Rat}{s:Nat}{x:bH}(h:x.l=s):NM v s out x=out.set x.t (out.getD x.t 0+v.getD x.f 0*x.q):=if_pos h
theorem aU8 {v out:List Rat}{s:Nat}{x:bH}(h:¬ x.l=s):NM v s out x=out:=if_neg h
theorem aH0 {w:List Int}{s:Nat}(hs:1<=s/\s<=32)(hw:kC s w)(hl:w.length<=256):aj P F.AQ [.d (ints w),.d (dI s)] (.d (dB true)):=by
 refine aj.intro fn.AQ (by rfl) (by rfl) (aB (by rfl)) λE hE=>(AW.sg hE rfl (aF rfl (OL.nil (AW.seq (AW.sg hE rfl (ai rfl (bJ rfl vL (Yx (s:=s) hs) ?_)))))))
 refine nt rfl (ai rfl (OL.yes rfl (ai rfl (OL.yes rfl (fJ sl.ints rfl rfl (OL.yes rfl (iO rfl rfl (c:=false) (by exact decide_eq_false (by omega)) ?_)))))))
 refine kL rfl rfl (OL.nil (qW rfl ?_));refine AW.skip (AW.seq (AW.sg hE rfl (aF rfl (OL.nil (AW.block (AW.aV (α:=Nat) [(0,_),(1,_)] [] (λi=>[(5,.d (dI i))]) (λi=>[]) (λi=>i<=w.length) (λi=>w.length-i) 0 (.cons (bK rfl) (.cons (bK rfl) .nil)) .nil ⟨Nat.zero_le _,.bZ,.nil⟩ ?_))))))
 rintro i h1
 have h1:i<=w.length:=h1;refine AW.seq (AW.sg hE rfl (ai rfl (ai rfl (fJ sl.ints rfl rfl (aY rfl rfl rfl (OL.nil (AW.cond rfl (λh17=>?_) (λh17=>?_))))))))
 .try simp only[dX] at h17
  refine AW.skip (AW.seq (AW.block (AW.seq ?_)));have hx:=hw (w.getD i 0) (getD_mem (by omega) 0)
  refine AW.rg hE rfl (ai rfl (ai rfl (fO sl.ints 0 rfl rfl (by omega) rfl rfl (iH ce.int rfl (aY rfl rfl (c:=false) (by exact decide_eq_false (by omega)) (ai rfl (OL.yes rfl ?_)))))))
  refine ai rfl (OL.yes rfl (ai rfl (OL.yes rfl (fO sl.ints 0 rfl rfl (by omega) rfl rfl (OL.yes rfl (iH ce.int rfl (OL.yes rfl ?_)))))))
  refine ai rfl (OL.yes rfl (iO rfl rfl (c:=false) (by exact decide_eq_false (by omega)) (kL rfl rfl (OL.nil (qW rfl ?_)))))
  exact AW.skip (AW.rg hE rfl (ai rfl (aI rfl rfl (by omega) (aF rfl (OL.nil (AW.again (x:=i) (i+1) (by omega) ⟨by omega,Knows.app .iq .bZ,.nil⟩))))))
 .try simp only[dX] at h17
  exact AW.exit (AW.sg hE rfl (aF rfl (OL.nil (AW.ret (aP.r ⟨_,.tmp rfl .nil,.le vR⟩)))))
theorem aH1 {n:Nat}(hn:n<=64):jd P F.AU [l7,.d (dI n)] n T.aA 8 ((List.replicate n (0:Rat)).map dW):=by
 have hzl:(List.replicate n (0:Rat)).length=n:=List.length_replicate;refine jd.intro fn.AU (by rfl) (by rfl) (aB (by rfl)) 4 rfl λE hE=>(AW.sg hE rfl (iI rfl rfl λb2=>(oK rfl (OL.nil (AW.sg hE rfl (oK rfl (OL.nil ?_)))))))
 refine AW.seq (AW.seq (AW.own 5 16 T.aA 8 rfl rfl (AW.rg hE rfl (aF rfl (OL.nil (AW.block ?_))))));refine AW.aV (α:=Nat × Nat × Nat) [(1,_),(2,_),(4,_)] [(2,_)] (λ(i,bq,cq)=>[(5,.bF 16 bq i cq),(6,.d (dI i))]) (λ(i,bq,cq)=>[(16,.row bq cq T.aA 8 (((List.replicate n (0:Rat)).take i).map dW))]) (λ(i,bq,cq)=>i<=n) (λ(i,bq,cq)=>n-i) (0,0,0) (.cons (bK rfl) (.cons (gB rfl) (.cons (Ea rfl) .nil))) (.cons (iR rfl) .nil) ⟨Nat.zero_le _,.iq,.cons rfl .nil⟩ ?_
 rintro⟨i,bq,cq⟩ h1
 have h1:i<=n:=h1;refine AW.seq (AW.sg hE rfl (ai rfl (ai rfl (aY rfl rfl rfl (OL.nil (AW.cond rfl (λh9=>?_) (λh9=>?_)))))))
 .try simp only[dX] at h9
  refine AW.skip (AW.seq (AW.block (AW.rg hE rfl (jq rfl (aO ag.Ring rfl rfl (vs:=[_,_]) rfl (aB rfl) (bJ rfl vL (Ol) (zX (y:=dW 0) sl.aU Nu rfl (by decide) ?_)))))))
  refine Ce sl.aU rfl rfl rfl (by rw[dJ,List.length_take];omega) (VC.d _) (λy hy=>by rw[lW hy];rfl) (by simp only[oU];omega) (by simp only[oU];omega) (.inr rfl) (ys:=((List.replicate n (0:Rat)).take (i+1)).map dW) (by rw[Xj (by omega),List.map_append];rfl) (n2:=i+1) rfl λb16 c16=>?_
  exact tJ rfl (OL.nil (AW.rg hE rfl (ai rfl (aI rfl rfl (by omega) (aF rfl (OL.nil (AW.again (x:=(i,bq,cq)) (i+1,b16,c16) (by (simp only[];omega)) ⟨by omega,Knows.app .Ah .iq,dw.app (.cons rfl .nil) (.cons rfl .nil)⟩)))))))
 .try simp only[dX] at h9
  refine AW.exit (AW.seq ?_);obtain rfl:i=n:=by omega
  have e9:(List.replicate i (0:Rat)).take i=List.replicate i 0:=List.take_of_length_le (by omega)
  exact AW.rg hE rfl (jq rfl (tJ rfl (OL.nil (AW.ret ⟨.inr rfl,16,bq,cq,((List.replicate i (0:Rat)).take i).map dW,rfl,rfl,by rw[e9,dJ];omega,by rw[e9];exact List.take_of_length_le (by rw[dJ];omega)⟩))))
theorem aH2 {a:Au}(f:Au.Wt a):aj P F.Ar [zL a] (.d (dB true)):=by
 have e3:=f.wide.num;have e4:=Jg a.aS;have hfo:∀ x,x ∈ uh a.aS->x.f<a.st/\x.t<a.st/\1<=x.l/\x.l<=a.sym:=f.ok.form.arc;refine aj.intro fn.Ar (by rfl) (by rfl) (aB (by rfl)) λE hE=>(AW.sg hE rfl (iI rfl rfl λb1=>(aF rfl (OL.nil (AW.sg hE rfl (aW fd.iZ rfl rfl (aO ag.Ring rfl rfl (vs:=[_,_]) rfl (aB rfl) ?_)))))))
 refine aW fd.jJ rfl rfl (aG ce.dH rfl rfl rfl (bJ rfl vL (as1 (l:=a.aS) e3 f.wide.arc) (aF rfl (OL.nil (AW.seq (AW.sg hE rfl (aF rfl ?_)))))));refine OL.nil (AW.block (AW.aV (α:=Nat) [(3,_)] [] (λi=>[(4,.d (dI i))]) (λi=>[]) (λi=>i<=(uh a.aS).length) (λi=>(uh a.aS).length-i) 0 (.cons (bK rfl) .nil) .nil ⟨Nat.zero_le _,.bZ,.nil⟩ ?_))
 rintro i h1
 have h1:i<=(uh a.aS).length:=h1;refine AW.seq (AW.sg hE rfl (ai rfl (ai rfl (fJ sl.dH rfl rfl (aY rfl rfl rfl (OL.nil (AW.cond rfl (λh13=>?_) (λh13=>?_))))))))
 .try simp only[dX] at h13
  refine AW.skip (AW.seq (AW.block (AW.seq ?_)));have hx:=(hfo ((uh a.aS).getD i default) (getD_mem (by omega) default)).2.2.1
  refine AW.rg hE rfl (ai rfl (ai rfl (fO sl.dH default rfl rfl (by omega) rfl rfl (Vp fd.AY rfl rfl (iH ce.int rfl (dR rfl rfl (c:=false) (by exact decide_eq_false (by omega)) (OL.nil ?_)))))))
  refine qW rfl ?_;exact AW.skip (AW.rg hE rfl (ai rfl (aI rfl rfl (by omega) (aF rfl (OL.nil (AW.again (x:=i) (i+1) (by omega) ⟨by omega,Knows.app .bZ .bZ,.nil⟩))))))
 .try simp only[dX] at h13
  exact AW.exit (AW.sg hE rfl (aF rfl (OL.nil (AW.ret (aP.r ⟨_,.tmp rfl .nil,.le vR⟩)))))
theorem aH3 {a:Au}{w:List Int}(f:Au.Wt a)(hw:kC a.sym w)(hl:w.length<=4):aj P F.AA [zL a,.d (ints w)] (.d (dI 0)):=by
 have h0:=f.ok.Gi;have s2:=f.s2;refine aj.intro fn.AA (by rfl) (by rfl) (aB (by rfl)) λE hE=>(AW.sg hE rfl (iI rfl rfl λb2=>(aF rfl (OL.nil (AW.seq (AW.block (AW.sg hE rfl ?_)))))))
 refine aO ag.Auto rfl rfl (vs:=[_,_,_,_,_,_,_]) rfl (aB rfl) (bJ rfl vL (aG7 (a:=a) f.ok f.wide f.s2 f.st) (nt rfl (aF rfl (OL.nil (qW rfl ?_)))));refine AW.sg hE rfl (aO ag.Auto rfl rfl (vs:=[_,_,_,_,_,_,_]) rfl (aB rfl) (bJ rfl vL (aH2 f) (nt rfl (aF rfl (OL.nil (qW rfl ?_))))));refine AW.sg hE rfl (ai rfl (aW fd.qp rfl rfl (aG ce.int rfl rfl rfl (bJ rfl vL (aH0 (w:=w) (s:=a.sym) (by omega) hw (by omega)) (nt rfl (aF rfl (OL.nil ?_)))))))
 refine qW rfl ?_;exact AW.skip (AW.sg hE rfl (aF rfl (OL.nil (AW.ret (aP.r ⟨_,.tmp rfl .nil,.le vR⟩)))))
set_option maxRecDepth 8000 in
theorem aU9 {a:Au}{v:List Rat}{s:Nat}(f:Au.Wt a)(hv:v.length=a.st)(hz:∀ i,sz (v.getD i 0)<=2147361):aj P F.Di [zL a,.d (wG v),.d (dI s)] (.d (wG (jc a.st v s a.aS))):=by
 have e3:=f.wide.num;have s2:=f.st;refine aj.intro fn.Di (by rfl) (by rfl) (aB (by rfl)) λE hE=>(AW.sg hE rfl (iI rfl rfl λb3=>(oK rfl (OL.nil (AW.sg hE rfl (aW fd.iZ rfl rfl (aO ag.Ring rfl rfl (vs:=[_,_]) rfl (aB rfl) ?_)))))))
 refine aW fd.mF rfl rfl (aG ce.int rfl rfl rfl (clR rfl .iq (aH1 (n:=a.st) s2) rfl λb14 c14=>(tJ rfl (OL.nil (AW.seq (AW.sg hE rfl (aF rfl ?_)))))));refine OL.nil (AW.block ?_);refine AW.aV (α:=Nat) [(1,_),(2,_),(3,_),(6,_),(7,_)] [(3,_)] (λi=>[(8,.d (dI i))]) (λi=>[(14,.row b14 c14 T.aA 8 ((jc a.st v s (a.aS.take i)).map dW))]) (λi=>i<=a.aS.length) (λi=>a.aS.length-i) 0 (.cons (bK rfl) (.cons (bK rfl) (.cons (gB rfl) (.cons (Ea rfl) (.cons (yj rfl) .nil))))) (.cons (iR rfl) .nil) ⟨Nat.zero_le _,.bZ,.cons rfl .nil⟩ ?_
 rintro i h1
 have h1:i<=a.aS.length:=h1;have hsl:(jc a.st v s (a.aS.take i)).length=a.st:=wY;refine AW.seq (AW.sg hE rfl (ai rfl (aW fd.jJ rfl rfl (aG ce.dH rfl rfl rfl (fJ sl.dH rfl rfl (aY rfl rfl rfl (OL.nil ?_)))))));refine AW.cond rfl (λh19=>?_) (λh19=>?_)
 .try simp only[dX] at h19
  refine AW.skip (AW.seq (AW.block (AW.seq ?_)));have hm:=getD_mem (l:=a.aS) (i:=i) (by omega) default
  obtain⟨hx1,hx2,hx3,hx4⟩:=f.ok.arc (a.aS.getD i default) hm;have hxz:=f.sz.arc (a.aS.getD i default) hm;have hz1:=hz (a.aS.getD i default).f;have hz2:=H7 f (i:=i) (j:=(a.aS.getD i default).t) (s:=s) hz;have hz3:=mD (v.getD (a.aS.getD i default).f 0) (a.aS.getD i default).q;refine AW.rg hE rfl (aW fd.jJ rfl rfl (aG ce.dH rfl rfl rfl (ai rfl (fO sl.dH default rfl rfl (by omega) rfl rfl (jH ag.pO rfl (vs:=[_,_,_,_,_,_,_,_,_,_,_]) rfl (aB rfl) (al z.pO rfl λb9=>(eH sz.pO rfl rfl rfl rfl rfl (aB rfl) (cells2:=[_,_,_,_,_,_,_,_,_,_,_]) rfl ?_)))))))
  refine OL.nil (AW.sg hE rfl (aW fd.AY rfl rfl (aG ce.int rfl rfl rfl (ai rfl (dR rfl rfl rfl (OL.split 30 rfl (λhc=>?_) (λhc=>?_)))))))
  .have hc:(a.aS.getD i default).l=s:=by have:=lq hc;omega
   refine OL.nil (Ot rfl ?_);refine AW.dg 1 [0,1,2,3,4,5,6,7,8,9,10,11,12,13,14,15,16,17,18,19,20,21,22] ay hE rfl (by kernel_rfl) (OI.aK (os:=[_,_,_,_,_,_,_,_,_,_,_,_,_,_,_,_,_,_,_,_,_,_,_]) rfl ?_)
   refine jq rfl (aW fd.zD rfl rfl (aG ce.int rfl rfl rfl (aW fd.iZ rfl rfl (aO ag.Ring rfl rfl (vs:=[_,_]) rfl (aB rfl) (jq rfl (aW fd.zD rfl rfl (aG ce.int rfl rfl rfl ?_)))))));refine iM sl.aU rfl rfl (by omega) ?_
   refine FK ag.aA (by decide) rfl rfl (aG6 (show (a.aS.getD i default).t<(jc a.st v s (a.aS.take i)).length by omega)) (vs:=[.d (dB (fZ ((jc a.st v s (a.aS.take i)).getD (a.aS.getD i default).t 0)).neg),.d (aH (fZ ((jc a.st v s (a.aS.take i)).getD (a.aS.getD i default).t 0)).num),.d (aH (fZ ((jc a.st v s (a.aS.take i)).getD (a.aS.getD i default).t 0)).den),.d (dI 0),.d (dB false),.d (dU 0),.d (.sl []),.d (.sl [])]) rfl (aB rfl) ?_
   refine aW fd.iZ rfl rfl (aO ag.Ring rfl rfl (vs:=[_,_]) rfl (aB rfl) (ai rfl (aW fd.zC rfl rfl (aG ce.int rfl rfl rfl (fO sl.aU 0 rfl rfl (by omega) rfl rfl (jH ag.aA rfl (vs:=[_,_,_,_,_,_,_,_]) rfl (aB rfl) (aW fd.uS rfl rfl ?_)))))))
   refine aO ag.aA rfl rfl (vs:=[_,_,_,_,_,_,_,_]) rfl (aB rfl) (bJ rfl vL (Yy (p:=v.getD (a.aS.getD i default).f 0) (q:=(a.aS.getD i default).q) (by omega) (by omega)) (bJ rfl vL (Xi (p:=(jc a.st v s (a.aS.take i)).getD (a.aS.getD i default).t 0) (q:=v.getD (a.aS.getD i default).f 0*(a.aS.getD i default).q) (by omega) (by omega)) (iM sl.aU rfl rfl (by omega) ?_)))
   refine GI sz.aA rfl (d:=dW ((jc a.st v s (a.aS.take i)).getD (a.aS.getD i default).t 0+v.getD (a.aS.getD i default).f 0*(a.aS.getD i default).q)) Nu rfl rfl (by rw[dJ];omega) (es2:=((jc a.st v s (a.aS.take i)).set (a.aS.getD i default).t ((jc a.st v s (a.aS.take i)).getD (a.aS.getD i default).t 0+v.getD (a.aS.getD i default).f 0*(a.aS.getD i default).q)).map dW) (by rw[List.map_set]) ?_
   refine OL.nil (AW.rg hE rfl (ai rfl (aI rfl rfl (by omega) (aF rfl (OL.nil ?_)))))
   exact AW.again (x:=i) (i+1) (by omega) ⟨by omega,Knows.app .DR .bZ,dw.app (.cons rfl .nil) (.cons (by rw[DI (by omega),aU7 hc];rfl) .nil)⟩
  .have hc:¬ (a.aS.getD i default).l=s:=by have:=nS hc;omega
   refine OL.nil (qW rfl ?_);refine AW.skip (AW.rg hE rfl (ai rfl (aI rfl rfl (by omega) (aF rfl (OL.nil ?_)))))
   exact AW.again (x:=i) (i+1) (by omega) ⟨by omega,Knows.app .DR .bZ,dw.app (.cons rfl .nil) (.cons (by rw[DI (by omega),aU8 hc];rfl) .nil)⟩
 .try simp only[dX] at h19
  refine AW.exit (AW.seq ?_);obtain rfl:i=a.aS.length:=by omega
  exact AW.rg hE rfl (jq rfl (tJ rfl (OL.nil (AW.ret (aP.r ⟨_,.tmp rfl .nil,RO.all rfl rfl (by rw[dJ,wY]) (by rw[List.take_length])⟩)))))
theorem Z9 {a:Au}{w:List Int}(f:Au.Wt a)(hw:kC a.sym w)(hl:w.length<=4):aj P F.xk [zL a,.d (ints w)] (.jS [.d (wG (Ji a w)),.d (dI 0)]):=by
 have h0:=f.ok.Gi;refine aj.intro fn.xk (by rfl) (by rfl) (aB (by rfl)) λE hE=>(AW.sg hE rfl (iI rfl rfl λb2=>(oK rfl (aF rfl (OL.nil (AW.seq (AW.sg hE rfl ?_)))))))
 refine aO ag.Auto rfl rfl (vs:=[_,_,_,_,_,_,_]) rfl (aB rfl) (ai rfl (bJ rfl vL (aH3 f hw hl) (aF rfl (OL.nil (AW.sg hE rfl (ai rfl (eG rfl rfl (c:=false) (by exact lY (by omega)) ?_)))))))
 refine OL.nil (qW rfl ?_);refine AW.skip (AW.sg hE rfl (aO ag.Auto rfl rfl (vs:=[_,_,_,_,_,_,_]) rfl (aB rfl) (bJ rfl vL (aU4 (a:=a) f.ok f.wide f.st) (fdC fc.vV rfl rfl (aF rfl (OL.nil (AW.seq ?_)))))));refine AW.sg hE rfl (aF rfl (OL.nil (AW.block ?_)));refine AW.aV (α:=Nat) [(1,_),(2,_),(4,_),(5,_)] [(2,_)] (λi=>[(7,.d (wG (Ji a (w.take i)))),(8,.d (dI i))]) (λi=>[]) (λi=>i<=w.length) (λi=>w.length-i) 0 (.cons (bK rfl) (.cons (gB rfl) (.cons (Ea rfl) (.cons (bK rfl) .nil)))) (.cons (iR rfl) .nil) ⟨Nat.zero_le _,.iq,.nil⟩ ?_
 rintro i h1
 have h1:i<=w.length:=h1;have hfz:∀ j,sz ((Ji a (w.take i)).getD j 0)<=2147361:=λj=>Nat.le_trans (WQ f.ok f.sz w i h1 j) (aL4 (by omega))
 refine AW.seq (AW.sg hE rfl (ai rfl (ai rfl (fJ sl.ints rfl rfl (aY rfl rfl rfl (OL.nil (AW.cond rfl (λh21=>?_) (λh21=>?_))))))))
 .try simp only[dX] at h21
  refine AW.skip (AW.seq (AW.block ?_));have hx:=hw (w.getD i 0) (getD_mem (by omega) 0)
  refine AW.dg 1 [0,1,2,3,4,5,6,7] ay hE rfl (by kernel_rfl) (OI.aK (os:=[_,_,_,_,_,_,_,_]) rfl ?_)
  refine aO ag.Auto rfl rfl (vs:=[_,_,_,_,_,_,_]) rfl (aB rfl) (ai rfl (ai rfl (ai rfl (fO sl.ints 0 rfl rfl (by omega) rfl rfl (iH ce.int rfl (bJ rfl (.cons vR (.cons vR (.cons (bG.int (by omega)) .nil))) (aU9 (a:=a) (v:=Ji a (w.take i)) (s:=(w.getD i 0).toNat) f (KL f.ok _) hfz) (aF rfl ?_)))))))
  refine OL.nil (AW.rg hE rfl (ai rfl (aI rfl rfl (by omega) (aF rfl (OL.nil ?_)))))
  exact AW.again (x:=i) (i+1) (by omega) ⟨by omega,Knows.app .Jz (.cons (by rw[Ik (by omega)];exact bG.refl _) .bZ),dw.app (.cons rfl .nil) (.nil)⟩
 .try simp only[dX] at h21
  refine AW.exit (AW.seq ?_);obtain rfl:i=w.length:=by omega
  exact AW.rg hE rfl (ai rfl (aF rfl (aF rfl (OL.nil (AW.ret (aP.r ⟨_,.tmp rfl (.tmp rfl .nil),_,.cons (.le (by rw[List.take_length];exact bG.refl _)) (.cons (.le vR) .nil),rfl⟩))))))
theorem bg8 {v u:List Rat}{n:Nat}(hv:v.length=n)(hu:u.length=n)(hn:n<=64)(zv:∀ i,sz (v.getD i 0)<=2147361)(zu:∀ i,sz (u.getD i 0)<=6):aj P F.ET [l7,.d (wG v),.d (wG u)] (vW (EI v u n)):=by
 refine aj.intro fn.ET (by rfl) (by rfl) (aB (by rfl)) λE hE=>(AW.sg hE rfl (iI rfl rfl λb3=>(al z.aA rfl λb6=>(OL.nil (AW.sg hE rfl (aO ag.Ring rfl rfl (vs:=[_,_]) rfl (aB rfl) (bJ rfl vL (Ol) ?_)))))))
 refine al z.aA rfl λb7=>(eH sz.aA rfl rfl rfl rfl rfl (aB rfl) (cells2:=[_,_,_,_,_,_,_,_]) rfl (OL.nil (AW.seq (AW.sg hE rfl (aF rfl (OL.nil (AW.block ?_)))))));refine AW.aV (α:=Nat) [(1,_),(2,_),(3,_),(6,_),(7,_)] [(3,_),(6,_)] (λi=>[(8,.d (dI i))]) (λi=>[(7,.box b7 T.aA [.d (dB (fZ (EI v u i)).neg),.d (aH (fZ (EI v u i)).num),.d (aH (fZ (EI v u i)).den),.d (dI 0),.d (dB false),.d (dU 0),.d (.sl []),.d (.sl [])])]) (λi=>i<=n) (λi=>n-i) 0 (.cons (bK rfl) (.cons (bK rfl) (.cons (gB rfl) (.cons (gB rfl) (.cons (gB rfl) .nil))))) (.cons (iR rfl) (.cons (iR rfl) .nil)) ⟨Nat.zero_le _,.bZ,.cons rfl .nil⟩ ?_
 rintro i h1
 have h1:i<=n:=h1;have z1:=zv i;have z2:=zu i;have z3:=mD (v.getD i 0) (u.getD i 0);have z4:=aG9 (i:=i) zv zu;refine AW.seq (AW.sg hE rfl (ai rfl (ai rfl (fJ sl.aU rfl rfl (aY rfl rfl rfl (OL.split 14 rfl (λha=>?_) (λha=>?_)))))))
 .have ha:i<n:=by have:=lq ha;simp at this;omega
  refine ai rfl (OL.yes rfl (ai rfl (OL.yes rfl (ai rfl (OL.yes rfl (fJ sl.aU rfl rfl (OL.yes rfl ?_)))))));refine aY rfl rfl (c:=true) (decide_eq_true (by omega)) (oC rfl rfl (OL.nil (Ot rfl ?_)))
  refine AW.skip (AW.seq (AW.block (AW.dg 1 [0,1,2,3,4,5,6,7,8,9,10,11,12,13] ay hE rfl (by kernel_rfl) (OI.aK (os:=[_,_,_,_,_,_,_,_,_,_,_,_,_,_]) rfl ?_))))
  refine aO ag.Ring rfl rfl (vs:=[_,_]) rfl (aB rfl) (aO ag.aA rfl rfl (vs:=[_,_,_,_,_,_,_,_]) rfl (aB rfl) (aO ag.Ring rfl rfl (vs:=[_,_]) rfl (aB rfl) (ai rfl (ai rfl (fO sl.aU 0 rfl rfl (by omega) rfl rfl (jH ag.aA rfl (vs:=[_,_,_,_,_,_,_,_]) rfl (aB rfl) (ai rfl ?_)))))))
  refine ai rfl (fO sl.aU 0 rfl rfl (by omega) rfl rfl (jH ag.aA rfl (vs:=[_,_,_,_,_,_,_,_]) rfl (aB rfl) (bJ rfl vL (Yy (p:=v.getD i 0) (q:=u.getD i 0) (by omega) (by omega)) (bJ rfl vL (Xi (p:=(EI v u i)) (q:=v.getD i 0*u.getD i 0) (by omega) (by omega)) (eH sz.aA rfl rfl rfl rfl rfl (aB rfl) (cells2:=[_,_,_,_,_,_,_,_]) rfl (OL.nil (AW.rg hE rfl ?_)))))))
  exact ai rfl (aI rfl rfl (by omega) (aF rfl (OL.nil (AW.again (x:=i) (i+1) (by omega) ⟨by omega,Knows.app .DR .bZ,dw.app (.cons rfl (.cons rfl .nil)) (.cons rfl .nil)⟩))))
 .have ha:¬ i<n:=by have:=nS ha;simp at this;omega
  obtain rfl:i=n:=by omega
  refine ai rfl (OL.nd rfl (OL.nd rfl (OL.nd rfl (OL.nd rfl (kL rfl rfl (OL.nil (qW rfl ?_)))))));refine AW.exit (AW.sg hE rfl (aO ag.aA rfl rfl (vs:=[_,_,_,_,_,_,_,_]) rfl (aB rfl) (eH sz.aA rfl rfl rfl rfl rfl (aB rfl) (cells2:=[_,_,_,_,_,_,_,_]) rfl (OL.nil ?_))));exact AW.ret (aP.r ⟨_,.dV rfl rfl ag.aA (aB rfl) .nil,.ag (.cons (.le vR) (.cons (.le vR) (.cons (.le vR) (.cons (.le vR) (.cons (.le vR) (.cons (.le vR) (.cons (.le vR) (.cons (.le vR) .nil))))))))⟩)
theorem as9 {a:Au}{w:List Int}(f:Au.Wt a)(hw:kC a.sym w)(hl:w.length<=4):aj P F.rW [zL a,.d (ints w)] (.jS [vW (iD a w),.d (dI 0)]):=by
 have hfz:∀ j,sz ((Ji a w).getD j 0)<=2147361:=λj=>by
   have h:=WQ f.ok f.sz w w.length (Nat.le_refl _) j;rw[List.take_length] at h;exact Nat.le_trans h (aL4 hl)
 refine aj.intro fn.rW (by rfl) (by rfl) (aB (by rfl)) λE hE=>(AW.sg hE rfl (iI rfl rfl λb2=>(al z.aA rfl λb4=>(aF rfl (OL.nil (AW.sg hE rfl (aO ag.Auto rfl rfl (vs:=[_,_,_,_,_,_,_]) rfl (aB rfl) ?_)))))))
 refine ai rfl (bJ rfl vL (Z9 f hw hl) (zW rfl (ex rfl rfl (ex rfl rfl (aF rfl (aF rfl (OL.nil ?_)))))));refine AW.seq (AW.sg hE rfl (ai rfl (eG rfl rfl (c:=false) (by exact lY (by omega)) (OL.nil (qW rfl ?_)))))
 refine AW.skip (AW.sg hE rfl (aW fd.iZ rfl rfl (aO ag.Ring rfl rfl (vs:=[_,_]) rfl (aB rfl) (ai rfl (aW fd.wR rfl rfl (aG ce.aU rfl rfl rfl (bJ rfl vL (bg8 (v:=Ji a w) (u:=a.fin) (n:=a.st) (KL f.ok w) f.ok.fin f.st hfz (λi=>Qc f.sz.fin (by decide) i)) ?_)))))))
 rw[UE f.ok hw];refine eH sz.aA rfl rfl rfl rfl rfl (aB rfl) (cells2:=[_,_,_,_,_,_,_,_]) rfl (aF rfl (OL.nil ?_));exact AW.ret (aP.r ⟨_,.dV rfl rfl ag.aA (aB rfl) (.tmp rfl .nil),_,.cons (.ag (.cons (.le vR) (.cons (.le vR) (.cons (.le vR) (.cons (.le vR) (.cons (.le vR) (.cons (.le vR) (.cons (.le vR) (.cons (.le vR) .nil))))))))) (.cons (.le vR) .nil),rfl⟩)

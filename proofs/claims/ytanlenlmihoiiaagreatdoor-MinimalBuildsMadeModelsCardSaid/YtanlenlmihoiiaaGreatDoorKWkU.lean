/-
  Walks of the law, part 1: automata out of plain numbers, letters (printed by mk2.py).
-/
import Derived.Test.YtanlenlmihoiiaaGreatDoorKWkT
set_option linter.unusedVariables false
set_option linter.unusedSimpArgs false
namespace Go.Proofs.YtanlenlmihoiiaaGreatDoor
open Go Go.AL
theorem ae7 {k:Int}{n:Nat}(h:1<=n):(Gf k n:Int)=AL.within k n:=by
 rw[PN k h];unfold AL.within;rw[if_neg (by omega)]
theorem br7 {a b:Int}(hb:b≠0):bin .quo (.int .i64 a) (.int .i64 b)=some (.int .i64 (IntKind.i64.wrap (a.tdiv b))):=by
 simp only[bin,true_and];rw[if_pos hb]
theorem br8 {a b:Int}:bin .sub (.int .i64 a) (.int .i64 b)=some (.int .i64 (IntKind.i64.wrap (a-b))):=by simp[bin]
theorem aF5 (v:Int):(Gf v 13:Int)-6=UL v:=by
 have h:(Gf v 13:Int)=v % 13:=PN (n:=13) v (by decide)
 unfold UL;rw[h]
theorem aF6 (v:Int):1+(Gf (IntKind.i64.wrap (v.tdiv 13)) 3:Int)=UM v:=by
 have h:(Gf (IntKind.i64.wrap (v.tdiv 13)) 3:Int)=IntKind.i64.wrap (v.tdiv 13) % 3:=PN (n:=3) _ (by decide)
 unfold UM;rw[h]
abbrev U7 (m:lZ)(e:Bool):V:=.ag [.d (dI m.st),.d (ints m.ini),.d (ints m.fin),.d (ints m.aN),.d (dB e)]
def BD (l:List Int)(one i:Nat):List Rat:=(List.range i).map λk=>Fp l k one
theorem Eb (l:List Int)(one i:Nat):(BD l one i).length=i:=by simp[BD]
theorem TB (l:List Int)(one i:Nat):BD l one (i+1)=BD l one i++[Fp l i one]:=by unfold BD;rw[List.range_succ,List.map_append];rfl
def Ql (m:lZ)(sym n g:Nat):List bU:=(List.range g).map (WG m.aN sym n)
theorem Qm (m:lZ)(sym n g:Nat):(Ql m sym n g).length=g:=by simp[Ql]
theorem an3 (m:lZ)(sym n g:Nat):Ql m sym n (g+1)=Ql m sym n g++[WG m.aN sym n g]:=by unfold Ql;rw[List.range_succ,List.map_append];rfl
theorem aF7 {l:List Int}{g:Nat}(h1:4*g+3<l.length)(h2:4*g<40):g<groups l:=by unfold groups;omega
theorem Xw {l:List Int}{g:Nat}(h:g<=groups l)(h1:¬(4*g+3<l.length) \/ ¬ 4*g<40):g=groups l:=by unfold groups at *;omega
theorem ae8 {s:Nat}(hs:1<=s/\s<=32):ai P F.wL [.d (dI s)] (.d (dB true)):=by
 refine ai.intro fn.wL (by rfl) (by rfl) (ay (by rfl)) λE hE=>(AW.sg hE rfl (aF rfl (OL.nil (AW.sg hE rfl (aj rfl (qX rfl rfl (c:=true) (by exact decide_eq_true (by omega)) (aj rfl ?_)))))))
 exact OL.yes rfl (aj rfl (OL.yes rfl (yM rfl rfl (c:=true) (by exact decide_eq_true (by omega)) (oK rfl rfl (aF rfl (OL.nil (AW.ret (aP.r ⟨_,.tmp rfl .nil,.le vR⟩))))))))
theorem aT9 {v lo hi:Int}(h:lo<=v/\v<=hi):ai P F.Jr [.d (dI v),.d (dI lo),.d (dI hi)] (.d (dB true)):=by
 refine ai.intro fn.Jr (by rfl) (by rfl) (ay (by rfl)) λE hE=>(AW.sg hE rfl (aF rfl (OL.nil (AW.sg hE rfl (aj rfl (aj rfl (qX rfl rfl (c:=true) (by exact decide_eq_true (by omega)) ?_)))))))
 refine aj rfl (OL.yes rfl (aj rfl (OL.yes rfl (aj rfl (OL.yes rfl (yM rfl rfl (c:=true) (by exact decide_eq_true (by omega)) (oK rfl rfl ?_)))))))
 exact aF rfl (OL.nil (AW.ret (aP.r ⟨_,.tmp rfl .nil,.le vR⟩)))
theorem an4 {k:Int}{n:Nat}(hn:1<=n/\n<=1000):ai P F.sZ [.d (dI k),.d (dI n)] (.d (dI (Gf k n))):=by
 refine ai.intro fn.sZ (by rfl) (by rfl) (ay (by rfl)) λE hE=>(AW.sg hE rfl (aF rfl (OL.nil (AW.sg hE rfl (aj rfl (aj rfl (bo rfl rfl (bl5 (by omega)) ?_)))))))
 have ht:=tmod_lt (v:=k) (m:=n) (by omega)
 refine aF rfl (OL.nil (AW.seq (AW.sg hE rfl (aj rfl (bG rfl rfl rfl (OL.nil (AW.cond rfl (λh=>?_) (λh=>?_))))))))
 .try simp only[fD] at h
  refine AW.rg hE rfl (aj rfl (aj rfl (aI rfl rfl (by omega) (aF rfl (OL.nil (AW.sg hE rfl (aj rfl ?_)))))))
  exact aF rfl (OL.nil (AW.ret (aP.r ⟨_,.tmp rfl .nil,.le (bW.int ((YG (by omega) h).trans (ae7 hn.1).symm))⟩)))
 .try simp only[fD] at h
  exact AW.skip (AW.sg hE rfl (aj rfl (aF rfl (OL.nil (AW.ret (aP.r ⟨_,.tmp rfl .nil,.le (bW.int ((YF (by omega) h).trans (ae7 hn.1).symm))⟩))))))
theorem aU0 {v:Int}:ai P F.oO [.d (dI v)] (vQ (YU v)):=by
 have h1:=ac3 v;have h2:=ac4 v;refine ai.intro fn.oO (by rfl) (by rfl) (ay (by rfl)) λE hE=>(AW.sg hE rfl (al z.Rat rfl λb2=>(OL.nil (AW.sg hE rfl (aj rfl (bH rfl vL (an4 (k:=v) (n:=13) (by decide)) (bo rfl rfl (mg (c:=UL v) (aF5 v) (wrap_i64 (by omega))) ?_)))))))
 refine aj rfl (bo rfl rfl (br7 (by decide)) (bH rfl vL (an4 (k:=IntKind.i64.wrap (v.tdiv 13)) (n:=3) (by decide)) (bo rfl rfl (qf (c:=UM v) (aF6 v) (wrap_i64 (by omega))) (bH rfl vL (CW (n:=UL v) (d:=UM v) (by omega) (by omega) (by omega)) ?_))))
 rw[show ((UL v:Int):Rat) / ((UM v:Int):Rat)=YU v from rfl]
 exact fA sz.Rat rfl rfl rfl rfl rfl (ay rfl) (cells2:=[_,_,_]) rfl (OL.nil (AW.ret (aP.r ⟨_,.dN rfl rfl ag.Rat (ay rfl) .nil,.ag (.cons (.le vR) (.cons (.le vR) (.cons (.le vR) .nil)))⟩)))
theorem ae9 {v:Int}:ai P F.oN [kS,.d (dI v)] (vW (YU v)):=by
 refine ai.intro fn.oN (by rfl) (by rfl) (ay (by rfl)) λE hE=>(AW.sg hE rfl (iO rfl rfl λb2=>(al z.aC rfl λb4=>(OL.nil (AW.seq (AW.sg hE rfl (bC fd.lD rfl rfl ?_)))))))
 refine aG ce.int rfl rfl rfl (OL.nil (AW.block (AW.sg hE rfl (fG rfl rfl (c:=true) (by exact decide_eq_true (by omega)) (aF rfl (OL.nil (Hr rfl ?_)))))))
 exact AW.sg hE rfl (aj rfl (bH rfl vL (aU0 (v:=v)) (bd z.aC pl.aC (cs:=[_,_,_,_,_,_,_,_]) rfl (fA sz.aC rfl rfl rfl rfl rfl (ay rfl) (cells2:=[_,_,_,_,_,_,_,_]) rfl (OL.nil (AW.ret (aP.r ⟨_,.dN rfl rfl ag.aC (ay rfl) .nil,.le IC⟩)))))))
theorem br9 {l:List Int}{i one:Nat}(nl:l.length<=9223372036854775807):ai P F.tq [kS,.d (ints l),.d (dI i),.d (dI one)] (vW (Fp l i one)):=by
 refine ai.intro fn.tq (by rfl) (by rfl) (ay (by rfl)) λE hE=>(AW.sg hE rfl (iO rfl rfl λb4=>(al z.aC rfl λb8=>(OL.nil (AW.seq (AW.block (AW.sg hE rfl ?_)))))))
 refine aj rfl (aj rfl (fF sl.ints rfl rfl (bG rfl rfl rfl (OL.split 13 rfl (λhi=>?_) (λhi=>?_)))))
 .have hi:i<l.length:=by have:=lK hi;omega
  rw[show Fp l i one=YU (l.getD i 0) from if_pos hi]
  refine aF rfl (OL.nil (Hr rfl ?_));refine AW.seq (AW.dg 1 [0,1,2,3,4,5,6] ak hE rfl (by kernel_rfl) (OI.aK (os:=[_,_,_,_,_,_,_]) rfl ?_))
  refine aQ ag.Ring rfl rfl (vs:=[_,_]) rfl (ay rfl) (aj rfl (aj rfl (dR sl.ints 0 rfl rfl hi rfl rfl (iE ce.int rfl (bH rfl vL (ae9 (v:=l.getD i 0)) (fA sz.aC rfl rfl rfl rfl rfl (ay rfl) (cells2:=[_,_,_,_,_,_,_,_]) rfl (OL.nil ?_)))))));exact AW.ret (aP.r ⟨_,.dN rfl rfl ag.aC (ay rfl) .nil,.ag (.cons (.le vR) (.cons (.le vR) (.cons (.le vR) (.cons (.le vR) (.cons (.le vR) (.cons (.le vR) (.cons (.le vR) (.cons (.le vR) .nil))))))))⟩)
 .have hi:¬ i<l.length:=by have:=nZ hi;omega
  refine aF rfl (OL.nil (oH rfl ?_));refine AW.sg hE rfl (aj rfl (aj rfl (fG rfl rfl rfl (OL.split 23 rfl (λho=>?_) (λho=>?_)))))
  .have ho:i=one:=by have:=lK ho;omega
   rw[show Fp l i one=1 from (if_neg hi).trans (if_pos ho)]
   refine aF rfl (OL.nil (Hr rfl ?_));refine AW.sg hE rfl (aQ ag.Ring rfl rfl (vs:=[_,_]) rfl (ay rfl) (bH rfl .dD (br4) (fA sz.aC rfl rfl rfl rfl rfl (ay rfl) (cells2:=[_,_,_,_,_,_,_,_]) rfl (OL.nil ?_))));exact AW.ret (aP.r ⟨_,.dN rfl rfl ag.aC (ay rfl) .nil,.ag (.cons (.le vR) (.cons (.le vR) (.cons (.le vR) (.cons (.le vR) (.cons (.le vR) (.cons (.le vR) (.cons (.le vR) (.cons (.le vR) .nil))))))))⟩)
  .have ho:¬ i=one:=by have:=nZ ho;omega
   rw[show Fp l i one=0 from (if_neg hi).trans (if_neg ho)]
   refine aF rfl (OL.nil (oH rfl ?_));refine AW.skip (AW.sg hE rfl (aQ ag.Ring rfl rfl (vs:=[_,_]) rfl (ay rfl) (bH rfl .dD (U4) (fA sz.aC rfl rfl rfl rfl rfl (ay rfl) (cells2:=[_,_,_,_,_,_,_,_]) rfl (OL.nil ?_)))));exact AW.ret (aP.r ⟨_,.dN rfl rfl ag.aC (ay rfl) .nil,.ag (.cons (.le vR) (.cons (.le vR) (.cons (.le vR) (.cons (.le vR) (.cons (.le vR) (.cons (.le vR) (.cons (.le vR) (.cons (.le vR) .nil))))))))⟩)
set_option maxRecDepth 8000 in
set_option maxHeartbeats 3200000 in
theorem bs0 {m:lZ}{sym most:Nat}(hs:1<=sym/\sym<=32)(hm:1<=most/\most<=64)(n1:m.ini.length<=9223372036854775807)(n2:m.fin.length<=9223372036854775807)(n3:m.aN.length<=9223372036854775807):ai P F.kM [U7 m false,kS,.d (dI sym),.d (dI most)] (yV (dZ m sym most)):=by
 have hst:=NM (m:=m) hm.1;refine ai.intro fn.kM (by rfl) (by rfl) (ay (by rfl)) λE hE=>(AW.sg hE rfl (iO rfl rfl λb4=>(iO rfl rfl λb5=>(al z.Auto rfl λb8=>(OL.nil (AW.sg hE rfl (bC fd.aN8 rfl rfl ?_)))))))
 refine aG ce.int rfl rfl rfl (bo rfl rfl br8 (aj rfl (bH rfl vL (an4 (k:=IntKind.i64.wrap (m.st-1)) (n:=most) (by omega)) (bo rfl rfl (qf (c:=((gU m most):Int)) (by unfold gU;omega) (wrap_i64 (by omega))) (aF rfl (OL.nil (AW.sg hE rfl ?_)))))))
 refine aQ ag.Ring rfl rfl (vs:=[_,_]) rfl (ay rfl) (aj rfl (aj rfl (L6 (cs:=[_,_,_,_,_,_,_]) z.Auto pl.Auto (lI (by exact X5 rfl) (lI (by exact uG rfl) (lI (by exact uG rfl) (LZ)))) (by rfl) (al z.Auto rfl λb10=>(fA sz.Auto rfl rfl rfl rfl rfl (ay rfl) (cells2:=[_,_,_,_,_,_,_]) rfl (OL.nil (AW.seq ?_)))))))
 refine AW.sg hE rfl (aF rfl (OL.nil (AW.block (AW.rf 37 T.aC 8 rfl (AW.rf 49 T.aC 8 rfl (AW.oZ 10 [.d (dI 1),.d (.sl []),.d (dI sym),.d (dI (gU m most)),.bI 37 0 0 0,.bI 49 0 0 0,.mt] rfl (.cons vR (.cons vR (.cons vR (.cons vR (.cons jB (.cons jB .dD)))))) ?_))))));refine AW.aY (α:=Nat × Nat × Nat × Nat × Nat) [(2,_),(4,_),(5,_),(8,_),(9,_),(10,_)] [(4,_),(5,_),(8,_)] (λ(i,p1,c1,p2,c2)=>[(11,.d (dI i))]) (λ(i,p1,c1,p2,c2)=>[(10,.box b10 T.Auto [.d (dI 1),.d (.sl []),.d (dI sym),.d (dI (gU m most)),.bI 37 p1 i c1,.bI 49 p2 i c2,.mt]),(37,.row p1 c1 T.aC 8 ((BD m.ini 0 i).map dW)),(49,.row p2 c2 T.aC 8 ((BD m.fin ((gU m most)-1) i).map dW))]) (λ(i,p1,c1,p2,c2)=>i<=(gU m most)) (λ(i,p1,c1,p2,c2)=>(gU m most)-i) (0,0,0,0,0) (.cons (di rfl) (.cons (iw rfl) (.cons (iw rfl) (.cons (iw rfl) (.cons (di rfl) (.cons (iw rfl) .nil)))))) (.cons (je rfl) (.cons (je rfl) (.cons (je rfl) .nil))) ⟨Nat.zero_le _,.dD,.cons rfl (.cons rfl (.cons rfl .nil))⟩ ?_
 rintro⟨i,p1,c1,p2,c2⟩ h1
 have h1:i<=(gU m most):=h1;have hl1:=Eb m.ini 0 i;have hl2:=Eb m.fin ((gU m most)-1) i;refine AW.seq (AW.sg hE rfl (aj rfl (aj rfl (bG rfl rfl rfl (OL.nil (AW.cond rfl (λh26=>?_) (λh26=>?_)))))))
 .try simp only[fD] at h26
  refine AW.skip (AW.seq (AW.block (AW.seq (AW.dg 2 [0,1,2,3,4,5,6,7,8,9,10] ak hE rfl (by kernel_rfl) (OI.aK (os:=[_,_,_,_,_,_,_,_,_,_,_]) rfl ?_)))))
  refine bC fd.qW rfl rfl (aG ce.aW rfl rfl rfl (aQ ag.Ring rfl rfl (vs:=[_,_]) rfl (ay rfl) (bC fd.aN9 rfl rfl (aG ce.ints rfl rfl rfl (aj rfl (bH rfl vL (br9 (l:=m.ini) (i:=i) (one:=0) n1) (rF (y:=dW (Fp m.ini i 0)) sl.aW Nr rfl (by decide) ?_)))))))
  refine xZ sl.aW rfl rfl rfl (by rw[dA,hl1]) (VC.d _) (λy hy=>by rw[jJ hy];rfl) (by simp only[iY];omega) (by simp only[iY];omega) (.inr rfl) (ys:=(BD m.ini 0 (i+1)).map dW) (by rw[TB,List.map_append];rfl) (n2:=i+1) rfl λb37 c37=>?_
  refine bC fd.qW rfl rfl (fA sz.aW rfl rfl rfl rfl rfl (ay rfl) (cells2:=[_,_,_,_,_,_,_]) rfl (OL.nil (AW.dg 2 [0,1,2,3,4,5,6,7,8,9,10,11,12] ak hE rfl (by kernel_rfl) (OI.aK (os:=[_,_,_,_,_,_,_,_,_,_,_,_,_]) rfl ?_))))
  refine bC fd.uw rfl rfl (aG ce.aW rfl rfl rfl (aQ ag.Ring rfl rfl (vs:=[_,_]) rfl (ay rfl) (bC fd.aO0 rfl rfl (aG ce.ints rfl rfl rfl (aj rfl (aj rfl (bo rfl rfl (mg (c:=(((gU m most)-1:Nat):Int)) (by omega) (wrap_i64 (by omega))) ?_)))))))
  refine bH rfl vL (br9 (l:=m.fin) (i:=i) (one:=(gU m most)-1) n2) (rF (y:=dW (Fp m.fin i ((gU m most)-1))) sl.aW Nr rfl (by decide) ?_)
  refine xZ sl.aW rfl rfl rfl (by rw[dA,hl2]) (VC.d _) (λy hy=>by rw[jJ hy];rfl) (by simp only[iY];omega) (by simp only[iY];omega) (.inr rfl) (ys:=(BD m.fin ((gU m most)-1) (i+1)).map dW) (by rw[TB,List.map_append];rfl) (n2:=i+1) rfl λb49 c49=>?_
  refine bC fd.uw rfl rfl (fA sz.aW rfl rfl rfl rfl rfl (ay rfl) (cells2:=[_,_,_,_,_,_,_]) rfl (OL.nil (AW.rg hE rfl (aj rfl (aI rfl rfl (by omega) (aF rfl (OL.nil ?_)))))))
  exact AW.again (x:=(i,p1,c1,p2,c2)) (i+1,b37,c37,b49,c49) (by (simp only[];omega)) ⟨by omega,Knows.app .ZR .dD,dL.app (.cons rfl (.cons rfl (.cons rfl .nil))) (.cons rfl (.cons rfl (.cons rfl .nil)))⟩
 .try simp only[fD] at h26
  refine AW.exit (AW.seq (AW.seq ?_));obtain rfl:i=(gU m most):=by omega
  refine AW.rg hE rfl (aF rfl (OL.nil (AW.block (AW.rf 111 T.mX 11 rfl ?_))));refine AW.oZ 10 [.d (dI 1),.d (.sl []),.d (dI sym),.d (dI (gU m most)),.bI 37 p1 (gU m most) c1,.bI 49 p2 (gU m most) c2,.bI 111 0 0 0] rfl (.cons vR (.cons vR (.cons vR (.cons vR (.cons vR (.cons vR (.cons jB .nil))))))) ?_;refine AW.aY (α:=Nat × Nat × Nat) [(2,_),(4,_),(5,_),(8,_),(9,_),(10,_)] [(4,_),(5,_),(8,_),(37,_),(49,_)] (λ(g,p3,c3)=>[(12,.d (dI ((4*g:Nat):Int)))]) (λ(g,p3,c3)=>[(10,.box b10 T.Auto [.d (dI 1),.d (.sl []),.d (dI sym),.d (dI (gU m most)),.bI 37 p1 (gU m most) c1,.bI 49 p2 (gU m most) c2,.bI 111 p3 g c3]),(111,rowA p3 c3 (Ql m sym (gU m most) g))]) (λ(g,p3,c3)=>g<=groups m.aN) (λ(g,p3,c3)=>groups m.aN-g) (0,0,0) (.cons (di rfl) (.cons (iw rfl) (.cons (iw rfl) (.cons (iw rfl) (.cons (di rfl) (.cons (iw rfl) .nil)))))) (.cons (je rfl) (.cons (je rfl) (.cons (je rfl) (.cons (qZ rfl) (.cons (qZ rfl) .nil))))) ⟨Nat.zero_le _,.dD,.cons rfl (.cons rfl .nil)⟩ ?_
  rintro⟨g,p3,c3⟩ h4
  have h4:g<=groups m.aN:=h4;have h10:g<=10:=by unfold groups at h4;omega
  have hl3:=Qm m sym (gU m most) g;refine AW.seq (AW.sg hE rfl (aj rfl (bo rfl rfl (qf (c:=((4*g+3:Nat):Int)) (by omega) (wrap_i64 (by omega))) (bC fd.Js rfl rfl (aG ce.ints rfl rfl rfl (fF sl.ints rfl rfl (bG rfl rfl rfl ?_)))))))
  refine OL.split 56 rfl (λha=>?_) (λha=>?_)
  .have ha:4*g+3<m.aN.length:=by have:=lK ha;omega
   refine aj rfl (OL.yes rfl (aj rfl (OL.yes rfl (bG rfl rfl rfl (OL.split 59 rfl (λhb=>?_) (λhb=>?_))))))
   .have hb:4*g<40:=by have:=lK hb;omega
    have hg:=aF7 ha hb;refine oK rfl rfl (OL.nil (Hr rfl ?_));refine AW.skip (AW.seq (AW.block (AW.sg hE rfl (bC fd.Js rfl rfl (aG ce.ints rfl rfl rfl (aj rfl (bo rfl rfl (qf (c:=((4*g+1:Nat):Int)) (by omega) (wrap_i64 (by omega))) ?_)))))))
    refine dR sl.ints 0 rfl rfl (by omega) rfl rfl (iE ce.int rfl (aj rfl (bH rfl vL (an4 (k:=m.aN.getD (4*g+1) 0) (n:=sym) (by omega)) ?_)))
    have hmo:=JE (m.aN.getD (4*g+1) 0) hs.1;refine bo rfl rfl (qf (c:=((1+Gf (m.aN.getD (4*g+1) 0) sym:Nat):Int)) (by omega) (wrap_i64 (by omega))) (aF rfl (OL.nil (AW.seq (AW.sg hE rfl (bC fd.ab2 rfl rfl (aG ce.bool rfl rfl rfl (OL.nil ?_)))))))
    refine oH rfl ?_;refine AW.skip (AW.dg 2 [0,1,2,3,4,5,6,7,8,9,10,11,12,13,14,15,16,17,18,19,20,21,22,23,24,25,26,27,28,29,30] ak hE rfl (by kernel_rfl) (OI.aK (os:=[_,_,_,_,_,_,_,_,_,_,_,_,_,_,_,_,_,_,_,_,_,_,_,_,_,_,_,_,_,_,_]) rfl ?_))
    refine bC fd.gK rfl rfl (aG ce.dm rfl rfl rfl (bC fd.Js rfl rfl (aG ce.ints rfl rfl rfl (aj rfl (dR sl.ints 0 rfl rfl (by omega) rfl rfl (iE ce.int rfl (aj rfl ?_)))))))
    refine bH rfl vL (an4 (k:=m.aN.getD (4*g) 0) (n:=(gU m most)) (by omega)) (aj rfl (bC fd.Js rfl rfl (aG ce.ints rfl rfl rfl (aj rfl (bo rfl rfl (qf (c:=((4*g+2:Nat):Int)) (by omega) (wrap_i64 (by omega))) (dR sl.ints 0 rfl rfl (by omega) rfl rfl (iE ce.int rfl ?_)))))))
    refine aj rfl (bH rfl vL (an4 (k:=m.aN.getD (4*g+2) 0) (n:=(gU m most)) (by omega)) (aQ ag.Ring rfl rfl (vs:=[_,_]) rfl (ay rfl) (bC fd.Js rfl rfl (aG ce.ints rfl rfl rfl (aj rfl (bo rfl rfl (qf (c:=((4*g+3:Nat):Int)) (by omega) (wrap_i64 (by omega))) (dR sl.ints 0 rfl rfl (by omega) rfl rfl ?_)))))))
    refine iE ce.int rfl (bH rfl vL (ae9 (v:=m.aN.getD (4*g+3) 0)) (L6 (cs:=[_,_,_,_,_,_,_,_,_,_,_]) z.mX pl.mX (lI (by exact uG rfl) (lI (by exact uG rfl) (lI (by exact uG rfl) (lI (by exact X5 rfl) (LZ))))) (by rfl) (rF (y:=jG (WG m.aN sym (gU m most) g)) sl.dm (xQ (x:=(WG m.aN sym (gU m most) g))) rfl (by decide) ?_)))
    refine xZ sl.dm rfl rfl rfl (by rw[dA,hl3]) (VC.d _) (λy hy=>by rw[jJ hy];rfl) (by simp only[iY];omega) (by simp only[iY];omega) (.inr rfl) (ys:=(Ql m sym (gU m most) (g+1)).map jG) (by rw[an3,List.map_append];rfl) (n2:=g+1) rfl λbD3 bD4=>?_
    refine bC fd.gK rfl rfl (fA sz.dm rfl rfl rfl rfl rfl (ay rfl) (cells2:=[_,_,_,_,_,_,_]) rfl (OL.nil (AW.rg hE rfl (aj rfl (aI rfl rfl (by omega) (aF rfl (OL.nil ?_)))))))
    exact AW.again (x:=(g,p3,c3)) (g+1,bD3,bD4) (by (simp only[];omega)) ⟨by omega,Knows.app .ZR (.cons (bW.int (by omega)) .nil),dL.app (.cons rfl (.cons rfl (.cons rfl (.cons rfl (.cons rfl .nil))))) (.cons rfl (.cons rfl .nil))⟩
   .have hb:¬ 4*g<40:=by have:=nZ hb;omega
    obtain rfl:g=groups m.aN:=Xw h4 (.inr hb);refine oK rfl rfl (OL.nil (oH rfl ?_));refine AW.exit (AW.seq ?_);have hw1:=Eb m.ini 0 (gU m most);have hw2:=Eb m.fin ((gU m most)-1) (gU m most);have hw3:=Qm m sym (gU m most) (groups m.aN);refine AW.freeze 37 rfl (AW.oZ 10 [.d (dI 1),.d (.sl []),.d (dI sym),.d (dI (gU m most)),.d (qG (BD m.ini 0 (gU m most))),.bI 49 p2 (gU m most) c2,.bI 111 p3 (groups m.aN) c3] rfl (.cons vR (.cons vR (.cons vR (.cons vR (.cons (dP (by rw[dA];exact hw1.symm) rfl) .iW))))) ?_)
    refine AW.freeze 49 rfl (AW.oZ 10 [.d (dI 1),.d (.sl []),.d (dI sym),.d (dI (gU m most)),.d (qG (BD m.ini 0 (gU m most))),.d (qG (BD m.fin ((gU m most)-1) (gU m most))),.bI 111 p3 (groups m.aN) c3] rfl (.cons vR (.cons vR (.cons vR (.cons vR (.cons vR (.cons (dP (by rw[dA];exact hw2.symm) rfl) .dD)))))) ?_)
    refine AW.freeze 111 rfl (AW.oZ 10 [.d (dI 1),.d (.sl []),.d (dI sym),.d (dI (gU m most)),.d (qG (BD m.ini 0 (gU m most))),.d (qG (BD m.fin ((gU m most)-1) (gU m most))),.d (jW (Ql m sym (gU m most) (groups m.aN)))] rfl (.cons vR (.cons vR (.cons vR (.cons vR (.cons vR (.cons vR (.cons (dP (by rw[dA];exact hw3.symm) rfl) .nil))))))) ?_)
    refine AW.to [(8,.ptr 8 b8 0),(10,.ptr 10 b10 0)] [(8,.box b8 T.Auto [.d (dI 0),.mt,.d (dI 0),.d (dI 0),.mt,.mt,.mt]),(10,.box b10 T.Auto [.d (dI 1),.d (.sl []),.d (dI sym),.d (dI (gU m most)),.d (qG (BD m.ini 0 (gU m most))),.d (qG (BD m.fin ((gU m most)-1) (gU m most))),.d (jW (Ql m sym (gU m most) (groups m.aN)))])] (.cons bW.ptr (.cons bW.ptr .nil)) (.cons rfl (.cons rfl .nil)) ?_;exact AW.rg hE rfl (aQ ag.Auto rfl rfl (vs:=[_,_,_,_,_,_,_]) rfl (ay rfl) (fA sz.Auto rfl rfl rfl rfl rfl (ay rfl) (cells2:=[_,_,_,_,_,_,_]) rfl (OL.nil (AW.ret (aP.r ⟨_,.dN rfl rfl ag.Auto (ay rfl) .nil,.ag (.cons (.le vR) (.cons (.le vR) (.cons (.le vR) (.cons (.le vR) (.cons (.le vR) (.cons (.le vR) (.cons (.le vR) .nil)))))))⟩)))))
  .have ha:¬ 4*g+3<m.aN.length:=by have:=nZ ha;omega
   obtain rfl:g=groups m.aN:=Xw h4 (.inl ha);refine aj rfl (OL.nd rfl (OL.nd rfl (oI rfl rfl (OL.nil (oH rfl ?_)))));refine AW.exit (AW.seq ?_);have hw1:=Eb m.ini 0 (gU m most);have hw2:=Eb m.fin ((gU m most)-1) (gU m most);have hw3:=Qm m sym (gU m most) (groups m.aN);refine AW.freeze 37 rfl (AW.oZ 10 [.d (dI 1),.d (.sl []),.d (dI sym),.d (dI (gU m most)),.d (qG (BD m.ini 0 (gU m most))),.bI 49 p2 (gU m most) c2,.bI 111 p3 (groups m.aN) c3] rfl (.cons vR (.cons vR (.cons vR (.cons vR (.cons (dP (by rw[dA];exact hw1.symm) rfl) .iW))))) ?_)
   refine AW.freeze 49 rfl (AW.oZ 10 [.d (dI 1),.d (.sl []),.d (dI sym),.d (dI (gU m most)),.d (qG (BD m.ini 0 (gU m most))),.d (qG (BD m.fin ((gU m most)-1) (gU m most))),.bI 111 p3 (groups m.aN) c3] rfl (.cons vR (.cons vR (.cons vR (.cons vR (.cons vR (.cons (dP (by rw[dA];exact hw2.symm) rfl) .dD)))))) ?_)
   refine AW.freeze 111 rfl (AW.oZ 10 [.d (dI 1),.d (.sl []),.d (dI sym),.d (dI (gU m most)),.d (qG (BD m.ini 0 (gU m most))),.d (qG (BD m.fin ((gU m most)-1) (gU m most))),.d (jW (Ql m sym (gU m most) (groups m.aN)))] rfl (.cons vR (.cons vR (.cons vR (.cons vR (.cons vR (.cons vR (.cons (dP (by rw[dA];exact hw3.symm) rfl) .nil))))))) ?_)
   refine AW.to [(8,.ptr 8 b8 0),(10,.ptr 10 b10 0)] [(8,.box b8 T.Auto [.d (dI 0),.mt,.d (dI 0),.d (dI 0),.mt,.mt,.mt]),(10,.box b10 T.Auto [.d (dI 1),.d (.sl []),.d (dI sym),.d (dI (gU m most)),.d (qG (BD m.ini 0 (gU m most))),.d (qG (BD m.fin ((gU m most)-1) (gU m most))),.d (jW (Ql m sym (gU m most) (groups m.aN)))])] (.cons bW.ptr (.cons bW.ptr .nil)) (.cons rfl (.cons rfl .nil)) ?_;exact AW.rg hE rfl (aQ ag.Auto rfl rfl (vs:=[_,_,_,_,_,_,_]) rfl (ay rfl) (fA sz.Auto rfl rfl rfl rfl rfl (ay rfl) (cells2:=[_,_,_,_,_,_,_]) rfl (OL.nil (AW.ret (aP.r ⟨_,.dN rfl rfl ag.Auto (ay rfl) .nil,.ag (.cons (.le vR) (.cons (.le vR) (.cons (.le vR) (.cons (.le vR) (.cons (.le vR) (.cons (.le vR) (.cons (.le vR) .nil)))))))⟩)))))

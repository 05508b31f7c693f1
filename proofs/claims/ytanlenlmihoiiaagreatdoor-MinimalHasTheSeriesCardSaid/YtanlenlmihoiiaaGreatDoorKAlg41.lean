/-
  AL, part 41: a call that hands back one new block inside of what it answers.
-/
import Derived.Test.YtanlenlmihoiiaaGreatDoorKWkT
set_option linter.unusedVariables false
set_option linter.unusedSimpArgs false
namespace Go.Proofs.YtanlenlmihoiiaaGreatDoor
open Go Go.AL
theorem ab8 {k:Int}{n:Nat}(h:1<=n):(BJ k n:Int)=AL.within k n:=by
 rw[OU k h];unfold AL.within;rw[if_neg (by omega)]
theorem bs3 {a b:Int}(hb:b≠0):bin .quo (.int .i64 a) (.int .i64 b)=some (.int .i64 (IntKind.i64.wrap (a.tdiv b))):=by
 simp only[bin,true_and];rw[if_pos hb]
theorem bs4 {a b:Int}:bin .sub (.int .i64 a) (.int .i64 b)=some (.int .i64 (IntKind.i64.wrap (a-b))):=by simp[bin]
theorem aD4 (v:Int):(BJ v 13:Int)-6=Qe v:=by
 have h:(BJ v 13:Int)=v % 13:=OU (n:=13) v (by decide)
 unfold Qe;rw[h]
theorem aD5 (v:Int):1+(BJ (IntKind.i64.wrap (v.tdiv 13)) 3:Int)=Qg v:=by
 have h:(BJ (IntKind.i64.wrap (v.tdiv 13)) 3:Int)=IntKind.i64.wrap (v.tdiv 13) % 3:=OU (n:=3) _ (by decide)
 unfold Qg;rw[h]
abbrev Un (m:gB)(e:Bool):V:=.ag [.d (dI m.st),.d (ints m.ini),.d (ints m.fin),.d (ints m.aB),.d (dB e)]
def Ag (l:List Int)(one i:Nat):List Rat:=(List.range i).map λk=>Bz l k one
theorem Di (l:List Int)(one i:Nat):(Ag l one i).length=i:=by simp[Ag]
theorem RQ (l:List Int)(one i:Nat):Ag l one (i+1)=Ag l one i++[Bz l i one]:=by unfold Ag;rw[List.range_succ,List.map_append];rfl
def Po (m:gB)(sym n g:Nat):List bM:=(List.range g).map (VN m.aB sym n)
theorem Pq (m:gB)(sym n g:Nat):(Po m sym n g).length=g:=by simp[Po]
theorem ak7 (m:gB)(sym n g:Nat):Po m sym n (g+1)=Po m sym n g++[VN m.aB sym n g]:=by unfold Po;rw[List.range_succ,List.map_append];rfl
theorem aD6 {l:List Int}{g:Nat}(h1:4*g+3<l.length)(h2:4*g<40):g<groups l:=by unfold groups;omega
theorem WQ {l:List Int}{g:Nat}(h:g<=groups l)(h1:¬(4*g+3<l.length) \/ ¬ 4*g<40):g=groups l:=by unfold groups at *;omega
theorem ab9 {s:Nat}(hs:1<=s/\s<=32):ai P F.wC [.d (dI s)] (.d (dB true)):=by
 refine ai.intro fn.wC (by rfl) (by rfl) (au (by rfl)) λE hE=>(AW.sg hE rfl (aG rfl (OL.nil (AW.sg hE rfl (aj rfl (tH rfl rfl (c:=true) (by exact decide_eq_true (by omega)) (aj rfl ?_)))))))
 exact OL.yes rfl (aj rfl (OL.yes rfl (Aw rfl rfl (c:=true) (by exact decide_eq_true (by omega)) (nJ rfl rfl (aG rfl (OL.nil (AW.ret (aT.r ⟨_,.tmp rfl .nil,.le vR⟩))))))))
theorem aT5 {v lo hi:Int}(h:lo<=v/\v<=hi):ai P F.Ji [.d (dI v),.d (dI lo),.d (dI hi)] (.d (dB true)):=by
 refine ai.intro fn.Ji (by rfl) (by rfl) (au (by rfl)) λE hE=>(AW.sg hE rfl (aG rfl (OL.nil (AW.sg hE rfl (aj rfl (aj rfl (tH rfl rfl (c:=true) (by exact decide_eq_true (by omega)) ?_)))))))
 refine aj rfl (OL.yes rfl (aj rfl (OL.yes rfl (aj rfl (OL.yes rfl (Aw rfl rfl (c:=true) (by exact decide_eq_true (by omega)) (nJ rfl rfl ?_)))))))
 exact aG rfl (OL.nil (AW.ret (aT.r ⟨_,.tmp rfl .nil,.le vR⟩)))
theorem YM {k:Int}{n:Nat}(hn:1<=n/\n<=1000):ai P F.sJ [.d (dI k),.d (dI n)] (.d (dI (BJ k n))):=by
 refine ai.intro fn.sJ (by rfl) (by rfl) (au (by rfl)) λE hE=>(AW.sg hE rfl (aG rfl (OL.nil (AW.sg hE rfl (aj rfl (aj rfl (bo rfl rfl (bl6 (by omega)) ?_)))))))
 have ht:=tmod_lt (v:=k) (m:=n) (by omega)
 refine aG rfl (OL.nil (AW.seq (AW.sg hE rfl (aj rfl (bD rfl rfl rfl (OL.nil (AW.cond rfl (λh=>?_) (λh=>?_))))))))
 .try simp only[fG] at h
  refine AW.rg hE rfl (aj rfl (aj rfl (aJ rfl rfl (by omega) (aG rfl (OL.nil (AW.sg hE rfl (aj rfl ?_)))))))
  exact aG rfl (OL.nil (AW.ret (aT.r ⟨_,.tmp rfl .nil,.le (bV.int ((XW (by omega) h).trans (ab8 hn.1).symm))⟩)))
 .try simp only[fG] at h
  exact AW.skip (AW.sg hE rfl (aj rfl (aG rfl (OL.nil (AW.ret (aT.r ⟨_,.tmp rfl .nil,.le (bV.int ((XV (by omega) h).trans (ab8 hn.1).symm))⟩))))))
theorem aT6 {v:Int}:ai P F.oQ [.d (dI v)] (vQ (TS v)):=by
 have h1:=TT v;have h2:=TU v;refine ai.intro fn.oQ (by rfl) (by rfl) (au (by rfl)) λE hE=>(AW.sg hE rfl (al z.Rat rfl λb2=>(OL.nil (AW.sg hE rfl (aj rfl (bP rfl vL (YM (k:=v) (n:=13) (by decide)) (bo rfl rfl (oO (c:=Qe v) (aD4 v) (wrap_i64 (by omega))) ?_)))))))
 refine aj rfl (bo rfl rfl (bs3 (by decide)) (bP rfl vL (YM (k:=IntKind.i64.wrap (v.tdiv 13)) (n:=3) (by decide)) (bo rfl rfl (lG (c:=Qg v) (aD5 v) (wrap_i64 (by omega))) (bP rfl vL (GK (n:=Qe v) (d:=Qg v) (by omega) (by omega) (by omega)) ?_))))
 rw[show ((Qe v:Int):Rat) / ((Qg v:Int):Rat)=TS v from rfl]
 exact eG sz.Rat rfl rfl rfl rfl rfl (au rfl) (cells2:=[_,_,_]) rfl (OL.nil (AW.ret (aT.r ⟨_,.dK rfl rfl ag.Rat (au rfl) .nil,.ag (.cons (.le vR) (.cons (.le vR) (.cons (.le vR) .nil)))⟩)))
theorem ac0 {v:Int}:ai P F.oP [jG,.d (dI v)] (vW (TS v)):=by
 refine ai.intro fn.oP (by rfl) (by rfl) (au (by rfl)) λE hE=>(AW.sg hE rfl (iG rfl rfl λb2=>(al z.ay rfl λb4=>(OL.nil (AW.seq (AW.sg hE rfl (aV fd.kK rfl rfl ?_)))))))
 refine aA ce.int rfl rfl rfl (OL.nil (AW.block (AW.sg hE rfl (fE rfl rfl (c:=true) (by exact decide_eq_true (by omega)) (aG rfl (OL.nil (F6 rfl ?_)))))))
 exact AW.sg hE rfl (aj rfl (bP rfl vL (aT6 (v:=v)) (bd z.ay pl.ay (cs:=[_,_,_,_,_,_,_,_]) rfl (eG sz.ay rfl rfl rfl rfl rfl (au rfl) (cells2:=[_,_,_,_,_,_,_,_]) rfl (OL.nil (AW.ret (aT.r ⟨_,.dK rfl rfl ag.ay (au rfl) .nil,.le FM⟩)))))))
theorem bs5 {l:List Int}{i one:Nat}(nl:l.length<=9223372036854775807):ai P F.sN [jG,.d (ints l),.d (dI i),.d (dI one)] (vW (Bz l i one)):=by
 refine ai.intro fn.sN (by rfl) (by rfl) (au (by rfl)) λE hE=>(AW.sg hE rfl (iG rfl rfl λb4=>(al z.ay rfl λb8=>(OL.nil (AW.seq (AW.block (AW.sg hE rfl ?_)))))))
 refine aj rfl (aj rfl (fO sl.ints rfl rfl (bD rfl rfl rfl (OL.split 13 rfl (λhi=>?_) (λhi=>?_)))))
 .have hi:i<l.length:=by have:=mX hi;omega
  rw[show Bz l i one=TS (l.getD i 0) from if_pos hi]
  refine aG rfl (OL.nil (F6 rfl ?_));refine AW.seq (AW.dg 1 [0,1,2,3,4,5,6] ak hE rfl (by kernel_rfl) (OI.aP (os:=[_,_,_,_,_,_,_]) rfl ?_))
  refine aQ ag.Ring rfl rfl (vs:=[_,_]) rfl (au rfl) (aj rfl (aj rfl (fD sl.ints 0 rfl rfl hi rfl rfl (jb ce.int rfl (bP rfl vL (ac0 (v:=l.getD i 0)) (eG sz.ay rfl rfl rfl rfl rfl (au rfl) (cells2:=[_,_,_,_,_,_,_,_]) rfl (OL.nil ?_)))))));exact AW.ret (aT.r ⟨_,.dK rfl rfl ag.ay (au rfl) .nil,.ag (.cons (.le vR) (.cons (.le vR) (.cons (.le vR) (.cons (.le vR) (.cons (.le vR) (.cons (.le vR) (.cons (.le vR) (.cons (.le vR) .nil))))))))⟩)
 .have hi:¬ i<l.length:=by have:=oN hi;omega
  refine aG rfl (OL.nil (pW rfl ?_));refine AW.sg hE rfl (aj rfl (aj rfl (fE rfl rfl rfl (OL.split 23 rfl (λho=>?_) (λho=>?_)))))
  .have ho:i=one:=by have:=mX ho;omega
   rw[show Bz l i one=1 from (if_neg hi).trans (if_pos ho)]
   refine aG rfl (OL.nil (F6 rfl ?_));refine AW.sg hE rfl (aQ ag.Ring rfl rfl (vs:=[_,_]) rfl (au rfl) (bP rfl .dw (bs0) (eG sz.ay rfl rfl rfl rfl rfl (au rfl) (cells2:=[_,_,_,_,_,_,_,_]) rfl (OL.nil ?_))));exact AW.ret (aT.r ⟨_,.dK rfl rfl ag.ay (au rfl) .nil,.ag (.cons (.le vR) (.cons (.le vR) (.cons (.le vR) (.cons (.le vR) (.cons (.le vR) (.cons (.le vR) (.cons (.le vR) (.cons (.le vR) .nil))))))))⟩)
  .have ho:¬ i=one:=by have:=oN ho;omega
   rw[show Bz l i one=0 from (if_neg hi).trans (if_neg ho)]
   refine aG rfl (OL.nil (pW rfl ?_));refine AW.skip (AW.sg hE rfl (aQ ag.Ring rfl rfl (vs:=[_,_]) rfl (au rfl) (bP rfl .dw (Uk) (eG sz.ay rfl rfl rfl rfl rfl (au rfl) (cells2:=[_,_,_,_,_,_,_,_]) rfl (OL.nil ?_)))));exact AW.ret (aT.r ⟨_,.dK rfl rfl ag.ay (au rfl) .nil,.ag (.cons (.le vR) (.cons (.le vR) (.cons (.le vR) (.cons (.le vR) (.cons (.le vR) (.cons (.le vR) (.cons (.le vR) (.cons (.le vR) .nil))))))))⟩)
set_option maxRecDepth 8000 in
set_option maxHeartbeats 3200000 in
theorem bs6 {m:gB}{sym most:Nat}(hs:1<=sym/\sym<=32)(hm:1<=most/\most<=64)(n1:m.ini.length<=9223372036854775807)(n2:m.fin.length<=9223372036854775807)(n3:m.aB.length<=9223372036854775807):ai P F.kT [Un m false,jG,.d (dI sym),.d (dI most)] (uY (dS m sym most)):=by
 have hst:=Jv (m:=m) hm.1;refine ai.intro fn.kT (by rfl) (by rfl) (au (by rfl)) λE hE=>(AW.sg hE rfl (iG rfl rfl λb4=>(iG rfl rfl λb5=>(al z.Auto rfl λb8=>(OL.nil (AW.sg hE rfl (aV fd.aN2 rfl rfl ?_)))))))
 refine aA ce.int rfl rfl rfl (bo rfl rfl bs4 (aj rfl (bP rfl vL (YM (k:=IntKind.i64.wrap (m.st-1)) (n:=most) (by omega)) (bo rfl rfl (lG (c:=((gQ m most):Int)) (by unfold gQ;omega) (wrap_i64 (by omega))) (aG rfl (OL.nil (AW.sg hE rfl ?_)))))))
 refine aQ ag.Ring rfl rfl (vs:=[_,_]) rfl (au rfl) (aj rfl (aj rfl (Ko (cs:=[_,_,_,_,_,_,_]) z.Auto pl.Auto (jR (by exact U7 rfl) (jR (by exact rq rfl) (jR (by exact rq rfl) (J9)))) (by rfl) (al z.Auto rfl λb10=>(eG sz.Auto rfl rfl rfl rfl rfl (au rfl) (cells2:=[_,_,_,_,_,_,_]) rfl (OL.nil (AW.seq ?_)))))))
 refine AW.sg hE rfl (aG rfl (OL.nil (AW.block (AW.vz 37 T.ay 8 rfl (AW.vz 49 T.ay 8 rfl (AW.pV 10 [.d (dI 1),.d (.sl []),.d (dI sym),.d (dI (gQ m most)),.bK 37 0 0 0,.bK 49 0 0 0,.mt] rfl (.cons vR (.cons vR (.cons vR (.cons vR (.cons lK (.cons lK .dw)))))) ?_))))));refine AW.aX (α:=Nat × Nat × Nat × Nat × Nat) [(2,_),(4,_),(5,_),(8,_),(9,_),(10,_)] [(4,_),(5,_),(8,_)] (λ(i,p1,c1,p2,c2)=>[(11,.d (dI i))]) (λ(i,p1,c1,p2,c2)=>[(10,.box b10 T.Auto [.d (dI 1),.d (.sl []),.d (dI sym),.d (dI (gQ m most)),.bK 37 p1 i c1,.bK 49 p2 i c2,.mt]),(37,.row p1 c1 T.ay 8 ((Ag m.ini 0 i).map dW)),(49,.row p2 c2 T.ay 8 ((Ag m.fin ((gQ m most)-1) i).map dW))]) (λ(i,p1,c1,p2,c2)=>i<=(gQ m most)) (λ(i,p1,c1,p2,c2)=>(gQ m most)-i) (0,0,0,0,0) (.cons (dA rfl) (.cons (iF rfl) (.cons (iF rfl) (.cons (iF rfl) (.cons (dA rfl) (.cons (iF rfl) .nil)))))) (.cons (jc rfl) (.cons (jc rfl) (.cons (jc rfl) .nil))) ⟨Nat.zero_le _,.dw,.cons rfl (.cons rfl (.cons rfl .nil))⟩ ?_
 rintro⟨i,p1,c1,p2,c2⟩ h1
 have h1:i<=(gQ m most):=h1;have hl1:=Di m.ini 0 i;have hl2:=Di m.fin ((gQ m most)-1) i;refine AW.seq (AW.sg hE rfl (aj rfl (aj rfl (bD rfl rfl rfl (OL.nil (AW.cond rfl (λh26=>?_) (λh26=>?_)))))))
 .try simp only[fG] at h26
  refine AW.skip (AW.seq (AW.block (AW.seq (AW.dg 2 [0,1,2,3,4,5,6,7,8,9,10] ak hE rfl (by kernel_rfl) (OI.aP (os:=[_,_,_,_,_,_,_,_,_,_,_]) rfl ?_)))))
  refine aV fd.mg rfl rfl (aA ce.aS rfl rfl rfl (aQ ag.Ring rfl rfl (vs:=[_,_]) rfl (au rfl) (aV fd.aN3 rfl rfl (aA ce.ints rfl rfl rfl (aj rfl (bP rfl vL (bs5 (l:=m.ini) (i:=i) (one:=0) n1) (xG (y:=dW (Bz m.ini i 0)) sl.aS MK rfl (by decide) ?_)))))))
  refine Am sl.aS rfl rfl rfl (by rw[dL,hl1]) (VC.d _) (λy hy=>by rw[lV hy];rfl) (by simp only[kC];omega) (by simp only[kC];omega) (.inr rfl) (ys:=(Ag m.ini 0 (i+1)).map dW) (by rw[RQ,List.map_append];rfl) (n2:=i+1) rfl λb37 c37=>?_
  refine aV fd.mg rfl rfl (eG sz.aS rfl rfl rfl rfl rfl (au rfl) (cells2:=[_,_,_,_,_,_,_]) rfl (OL.nil (AW.dg 2 [0,1,2,3,4,5,6,7,8,9,10,11,12] ak hE rfl (by kernel_rfl) (OI.aP (os:=[_,_,_,_,_,_,_,_,_,_,_,_,_]) rfl ?_))))
  refine aV fd.o8 rfl rfl (aA ce.aS rfl rfl rfl (aQ ag.Ring rfl rfl (vs:=[_,_]) rfl (au rfl) (aV fd.aN4 rfl rfl (aA ce.ints rfl rfl rfl (aj rfl (aj rfl (bo rfl rfl (oO (c:=(((gQ m most)-1:Nat):Int)) (by omega) (wrap_i64 (by omega))) ?_)))))))
  refine bP rfl vL (bs5 (l:=m.fin) (i:=i) (one:=(gQ m most)-1) n2) (xG (y:=dW (Bz m.fin i ((gQ m most)-1))) sl.aS MK rfl (by decide) ?_)
  refine Am sl.aS rfl rfl rfl (by rw[dL,hl2]) (VC.d _) (λy hy=>by rw[lV hy];rfl) (by simp only[kC];omega) (by simp only[kC];omega) (.inr rfl) (ys:=(Ag m.fin ((gQ m most)-1) (i+1)).map dW) (by rw[RQ,List.map_append];rfl) (n2:=i+1) rfl λb49 c49=>?_
  refine aV fd.o8 rfl rfl (eG sz.aS rfl rfl rfl rfl rfl (au rfl) (cells2:=[_,_,_,_,_,_,_]) rfl (OL.nil (AW.rg hE rfl (aj rfl (aJ rfl rfl (by omega) (aG rfl (OL.nil ?_)))))))
  exact AW.again (x:=(i,p1,c1,p2,c2)) (i+1,b37,c37,b49,c49) (by (simp only[];omega)) ⟨by omega,Knows.app .Zn .dw,dP.app (.cons rfl (.cons rfl (.cons rfl .nil))) (.cons rfl (.cons rfl (.cons rfl .nil)))⟩
 .try simp only[fG] at h26
  refine AW.exit (AW.seq (AW.seq ?_));obtain rfl:i=(gQ m most):=by omega
  refine AW.rg hE rfl (aG rfl (OL.nil (AW.block (AW.vz 111 T.mQ 11 rfl ?_))));refine AW.pV 10 [.d (dI 1),.d (.sl []),.d (dI sym),.d (dI (gQ m most)),.bK 37 p1 (gQ m most) c1,.bK 49 p2 (gQ m most) c2,.bK 111 0 0 0] rfl (.cons vR (.cons vR (.cons vR (.cons vR (.cons vR (.cons vR (.cons lK .nil))))))) ?_;refine AW.aX (α:=Nat × Nat × Nat) [(2,_),(4,_),(5,_),(8,_),(9,_),(10,_)] [(4,_),(5,_),(8,_),(37,_),(49,_)] (λ(g,p3,c3)=>[(12,.d (dI ((4*g:Nat):Int)))]) (λ(g,p3,c3)=>[(10,.box b10 T.Auto [.d (dI 1),.d (.sl []),.d (dI sym),.d (dI (gQ m most)),.bK 37 p1 (gQ m most) c1,.bK 49 p2 (gQ m most) c2,.bK 111 p3 g c3]),(111,rowA p3 c3 (Po m sym (gQ m most) g))]) (λ(g,p3,c3)=>g<=groups m.aB) (λ(g,p3,c3)=>groups m.aB-g) (0,0,0) (.cons (dA rfl) (.cons (iF rfl) (.cons (iF rfl) (.cons (iF rfl) (.cons (dA rfl) (.cons (iF rfl) .nil)))))) (.cons (jc rfl) (.cons (jc rfl) (.cons (jc rfl) (.cons (tJ rfl) (.cons (tJ rfl) .nil))))) ⟨Nat.zero_le _,.dw,.cons rfl (.cons rfl .nil)⟩ ?_
  rintro⟨g,p3,c3⟩ h4
  have h4:g<=groups m.aB:=h4;have h10:g<=10:=by unfold groups at h4;omega
  have hl3:=Pq m sym (gQ m most) g;refine AW.seq (AW.sg hE rfl (aj rfl (bo rfl rfl (lG (c:=((4*g+3:Nat):Int)) (by omega) (wrap_i64 (by omega))) (aV fd.Jj rfl rfl (aA ce.ints rfl rfl rfl (fO sl.ints rfl rfl (bD rfl rfl rfl ?_)))))))
  refine OL.split 56 rfl (λha=>?_) (λha=>?_)
  .have ha:4*g+3<m.aB.length:=by have:=mX ha;omega
   refine aj rfl (OL.yes rfl (aj rfl (OL.yes rfl (bD rfl rfl rfl (OL.split 59 rfl (λhb=>?_) (λhb=>?_))))))
   .have hb:4*g<40:=by have:=mX hb;omega
    have hg:=aD6 ha hb;refine nJ rfl rfl (OL.nil (F6 rfl ?_));refine AW.skip (AW.seq (AW.block (AW.sg hE rfl (aV fd.Jj rfl rfl (aA ce.ints rfl rfl rfl (aj rfl (bo rfl rfl (lG (c:=((4*g+1:Nat):Int)) (by omega) (wrap_i64 (by omega))) ?_)))))))
    refine fD sl.ints 0 rfl rfl (by omega) rfl rfl (jb ce.int rfl (aj rfl (bP rfl vL (YM (k:=m.aB.getD (4*g+1) 0) (n:=sym) (by omega)) ?_)))
    have hmo:=Et (m.aB.getD (4*g+1) 0) hs.1;refine bo rfl rfl (lG (c:=((1+BJ (m.aB.getD (4*g+1) 0) sym:Nat):Int)) (by omega) (wrap_i64 (by omega))) (aG rfl (OL.nil (AW.seq (AW.sg hE rfl (aV fd.ZM rfl rfl (aA ce.bool rfl rfl rfl (OL.nil ?_)))))))
    refine pW rfl ?_;refine AW.skip (AW.dg 2 [0,1,2,3,4,5,6,7,8,9,10,11,12,13,14,15,16,17,18,19,20,21,22,23,24,25,26,27,28,29,30] ak hE rfl (by kernel_rfl) (OI.aP (os:=[_,_,_,_,_,_,_,_,_,_,_,_,_,_,_,_,_,_,_,_,_,_,_,_,_,_,_,_,_,_,_]) rfl ?_))
    refine aV fd.fM rfl rfl (aA ce.bZ rfl rfl rfl (aV fd.Jj rfl rfl (aA ce.ints rfl rfl rfl (aj rfl (fD sl.ints 0 rfl rfl (by omega) rfl rfl (jb ce.int rfl (aj rfl ?_)))))))
    refine bP rfl vL (YM (k:=m.aB.getD (4*g) 0) (n:=(gQ m most)) (by omega)) (aj rfl (aV fd.Jj rfl rfl (aA ce.ints rfl rfl rfl (aj rfl (bo rfl rfl (lG (c:=((4*g+2:Nat):Int)) (by omega) (wrap_i64 (by omega))) (fD sl.ints 0 rfl rfl (by omega) rfl rfl (jb ce.int rfl ?_)))))))
    refine aj rfl (bP rfl vL (YM (k:=m.aB.getD (4*g+2) 0) (n:=(gQ m most)) (by omega)) (aQ ag.Ring rfl rfl (vs:=[_,_]) rfl (au rfl) (aV fd.Jj rfl rfl (aA ce.ints rfl rfl rfl (aj rfl (bo rfl rfl (lG (c:=((4*g+3:Nat):Int)) (by omega) (wrap_i64 (by omega))) (fD sl.ints 0 rfl rfl (by omega) rfl rfl ?_)))))))
    refine jb ce.int rfl (bP rfl vL (ac0 (v:=m.aB.getD (4*g+3) 0)) (Ko (cs:=[_,_,_,_,_,_,_,_,_,_,_]) z.mQ pl.mQ (jR (by exact rq rfl) (jR (by exact rq rfl) (jR (by exact rq rfl) (jR (by exact U7 rfl) (J9))))) (by rfl) (xG (y:=jv (VN m.aB sym (gQ m most) g)) sl.bZ (wO (x:=(VN m.aB sym (gQ m most) g))) rfl (by decide) ?_)))
    refine Am sl.bZ rfl rfl rfl (by rw[dL,hl3]) (VC.d _) (λy hy=>by rw[lV hy];rfl) (by simp only[kC];omega) (by simp only[kC];omega) (.inr rfl) (ys:=(Po m sym (gQ m most) (g+1)).map jv) (by rw[ak7,List.map_append];rfl) (n2:=g+1) rfl λbE4 bE5=>?_
    refine aV fd.fM rfl rfl (eG sz.bZ rfl rfl rfl rfl rfl (au rfl) (cells2:=[_,_,_,_,_,_,_]) rfl (OL.nil (AW.rg hE rfl (aj rfl (aJ rfl rfl (by omega) (aG rfl (OL.nil ?_)))))))
    exact AW.again (x:=(g,p3,c3)) (g+1,bE4,bE5) (by (simp only[];omega)) ⟨by omega,Knows.app .Zn (.cons (bV.int (by omega)) .nil),dP.app (.cons rfl (.cons rfl (.cons rfl (.cons rfl (.cons rfl .nil))))) (.cons rfl (.cons rfl .nil))⟩
   .have hb:¬ 4*g<40:=by have:=oN hb;omega
    obtain rfl:g=groups m.aB:=WQ h4 (.inr hb);refine nJ rfl rfl (OL.nil (pW rfl ?_));refine AW.exit (AW.seq ?_);have hw1:=Di m.ini 0 (gQ m most);have hw2:=Di m.fin ((gQ m most)-1) (gQ m most);have hw3:=Pq m sym (gQ m most) (groups m.aB);refine AW.freeze 37 rfl (AW.pV 10 [.d (dI 1),.d (.sl []),.d (dI sym),.d (dI (gQ m most)),.d (lC (Ag m.ini 0 (gQ m most))),.bK 49 p2 (gQ m most) c2,.bK 111 p3 (groups m.aB) c3] rfl (.cons vR (.cons vR (.cons vR (.cons vR (.cons (dM (by rw[dL];exact hw1.symm) rfl) .jm))))) ?_)
    refine AW.freeze 49 rfl (AW.pV 10 [.d (dI 1),.d (.sl []),.d (dI sym),.d (dI (gQ m most)),.d (lC (Ag m.ini 0 (gQ m most))),.d (lC (Ag m.fin ((gQ m most)-1) (gQ m most))),.bK 111 p3 (groups m.aB) c3] rfl (.cons vR (.cons vR (.cons vR (.cons vR (.cons vR (.cons (dM (by rw[dL];exact hw2.symm) rfl) .dw)))))) ?_)
    refine AW.freeze 111 rfl (AW.pV 10 [.d (dI 1),.d (.sl []),.d (dI sym),.d (dI (gQ m most)),.d (lC (Ag m.ini 0 (gQ m most))),.d (lC (Ag m.fin ((gQ m most)-1) (gQ m most))),.d (iL (Po m sym (gQ m most) (groups m.aB)))] rfl (.cons vR (.cons vR (.cons vR (.cons vR (.cons vR (.cons vR (.cons (dM (by rw[dL];exact hw3.symm) rfl) .nil))))))) ?_)
    refine AW.to [(8,.ptr 8 b8 0),(10,.ptr 10 b10 0)] [(8,.box b8 T.Auto [.d (dI 0),.mt,.d (dI 0),.d (dI 0),.mt,.mt,.mt]),(10,.box b10 T.Auto [.d (dI 1),.d (.sl []),.d (dI sym),.d (dI (gQ m most)),.d (lC (Ag m.ini 0 (gQ m most))),.d (lC (Ag m.fin ((gQ m most)-1) (gQ m most))),.d (iL (Po m sym (gQ m most) (groups m.aB)))])] (.cons bV.ptr (.cons bV.ptr .nil)) (.cons rfl (.cons rfl .nil)) ?_;exact AW.rg hE rfl (aQ ag.Auto rfl rfl (vs:=[_,_,_,_,_,_,_]) rfl (au rfl) (eG sz.Auto rfl rfl rfl rfl rfl (au rfl) (cells2:=[_,_,_,_,_,_,_]) rfl (OL.nil (AW.ret (aT.r ⟨_,.dK rfl rfl ag.Auto (au rfl) .nil,.ag (.cons (.le vR) (.cons (.le vR) (.cons (.le vR) (.cons (.le vR) (.cons (.le vR) (.cons (.le vR) (.cons (.le vR) .nil)))))))⟩)))))
  .have ha:¬ 4*g+3<m.aB.length:=by have:=oN ha;omega
   obtain rfl:g=groups m.aB:=WQ h4 (.inl ha);refine aj rfl (OL.nd rfl (OL.nd rfl (oI rfl rfl (OL.nil (pW rfl ?_)))));refine AW.exit (AW.seq ?_);have hw1:=Di m.ini 0 (gQ m most);have hw2:=Di m.fin ((gQ m most)-1) (gQ m most);have hw3:=Pq m sym (gQ m most) (groups m.aB);refine AW.freeze 37 rfl (AW.pV 10 [.d (dI 1),.d (.sl []),.d (dI sym),.d (dI (gQ m most)),.d (lC (Ag m.ini 0 (gQ m most))),.bK 49 p2 (gQ m most) c2,.bK 111 p3 (groups m.aB) c3] rfl (.cons vR (.cons vR (.cons vR (.cons vR (.cons (dM (by rw[dL];exact hw1.symm) rfl) .jm))))) ?_)
   refine AW.freeze 49 rfl (AW.pV 10 [.d (dI 1),.d (.sl []),.d (dI sym),.d (dI (gQ m most)),.d (lC (Ag m.ini 0 (gQ m most))),.d (lC (Ag m.fin ((gQ m most)-1) (gQ m most))),.bK 111 p3 (groups m.aB) c3] rfl (.cons vR (.cons vR (.cons vR (.cons vR (.cons vR (.cons (dM (by rw[dL];exact hw2.symm) rfl) .dw)))))) ?_)
   refine AW.freeze 111 rfl (AW.pV 10 [.d (dI 1),.d (.sl []),.d (dI sym),.d (dI (gQ m most)),.d (lC (Ag m.ini 0 (gQ m most))),.d (lC (Ag m.fin ((gQ m most)-1) (gQ m most))),.d (iL (Po m sym (gQ m most) (groups m.aB)))] rfl (.cons vR (.cons vR (.cons vR (.cons vR (.cons vR (.cons vR (.cons (dM (by rw[dL];exact hw3.symm) rfl) .nil))))))) ?_)
   refine AW.to [(8,.ptr 8 b8 0),(10,.ptr 10 b10 0)] [(8,.box b8 T.Auto [.d (dI 0),.mt,.d (dI 0),.d (dI 0),.mt,.mt,.mt]),(10,.box b10 T.Auto [.d (dI 1),.d (.sl []),.d (dI sym),.d (dI (gQ m most)),.d (lC (Ag m.ini 0 (gQ m most))),.d (lC (Ag m.fin ((gQ m most)-1) (gQ m most))),.d (iL (Po m sym (gQ m most) (groups m.aB)))])] (.cons bV.ptr (.cons bV.ptr .nil)) (.cons rfl (.cons rfl .nil)) ?_;exact AW.rg hE rfl (aQ ag.Auto rfl rfl (vs:=[_,_,_,_,_,_,_]) rfl (au rfl) (eG sz.Auto rfl rfl rfl rfl rfl (au rfl) (cells2:=[_,_,_,_,_,_,_]) rfl (OL.nil (AW.ret (aT.r ⟨_,.dK rfl rfl ag.Auto (au rfl) .nil,.ag (.cons (.le vR) (.cons (.le vR) (.cons (.le vR) (.cons (.le vR) (.cons (.le vR) (.cons (.le vR) (.cons (.le vR) .nil)))))))⟩)))))
theorem kW {m:gB}:Au.Take (dS m 2 3) 2 :=
 have ok:=aP1 (m:=m) (sym:=2) (most:=3) (by decide) (by decide)
 have hs:=Jv (m:=m) (most:=3) (by decide)
 ⟨⟨ok,xZ.wide,rfl,(show 2<=32 by decide),(by show gQ m 3<=64;omega)⟩,xZ.few (by show gQ m 3<=6;omega)⟩
end Go.Proofs.YtanlenlmihoiiaaGreatDoor
namespace Go.AL
open Go Go.BigFrame
section
variable {P:Program}{E:Env}{K:S->Prop}{s:S}{ty:Nat}{pos:String}{after:Array Edge}
theorem After.new1 {F F':Hp}{w w':World}{i:Nat}{blk:iI}(h:After F jA w F' (mem1 i blk) w'):Ext F w F' w' /\ vg F' w' blk/\∀ k,blk.owns k->w.heap.size<=k/\F' k=Option.none:=by
 have e:mem1 i blk i=some blk:=by unfold mem1;rw[if_pos rfl]
 exact⟨⟨h.grow.mono λi x=>gq i x,h.le,h.gU.rC,λk p q=>(h.new k p q).resolve_right (gq k)⟩,h.gU.own i blk e,
  λk hk=>⟨(h.kM k ⟨i,blk,e,hk⟩).resolve_right (gq k),h.gU.apart i blk k e hk⟩⟩
theorem SO.aT7 {α:Type}{f:Operand}{args:Array Operand}{ats:Array TypeId}{mJ id:Nat}{caps args':List V}{blk:α->iI}{res:α->V}{φ:α->Prop}{dst:Option Nat}{g:Option (Nat × Bool)}(hd:ou E.n dst)
  (hf:s.ev f=.fn mJ caps) (ha:fK (args.toList.map s.ev++caps) args') (hs:jD P mJ args' jA res (λx=>mem1 id (blk x)) φ)
  (h:∀ x,φ x->K ((⟨s.ρ,upd s.M id (some (blk x))⟩:S).put dst (res x))):SO P E ⟨dst,.call { callee:=.value f,args:=args,argTypes:=ats },ty,pos,after,g⟩ K s:=λF a w hr=>by
 have hf':=hr.eval f;rw[hf] at hf';generalize Xo:a.eval f=af at hf';cases hf' with
 | @fn _ us _ hl hrr =>
  have hvs:lQ F (args.toList.map a.eval++us) args':=qE (vk (ny hr.eval _) ⟨hl,hrr⟩) ha;have hcc:=hs.2 F w _ (zB hr.gU.rC) hvs;unfold execOp;have e1:(args.map a.eval++us.toArray)=(args.toList.map a.eval++us).toArray:=by simp
  simp only[resolve,Xo,Deferred.ofValue,Sem.run_bind,Sem.run_pure,Result.andThen_ok,invoke,Array.empty_append,e1,lS hs.1];refine hcc.mono λe2 w' ⟨x,hφ,v,F',he,hA,hv⟩=>?_;obtain⟨hx,hok,hfr⟩:=hA.new1;exact⟨v,he,F',_,hr.nD (dst:=dst) (After.Hz hr.gU hx id _ hok hfr) hd (v:=res x) hv,h x hφ⟩
theorem RO.all {M Mk:Mem}{id b n c e sz:Nat}{es:List D}{d:D}(hM:M id=some (.row b c e sz es))(hk:Mk id=Option.none)(hn:n=es.length)(hd:d=.sl es):RO M Mk (.bK id b n c) (.d d):=by
 subst hn hd;have h:=RO.bK (M:=M) (Mk:=Mk) hM hk (Nat.le_refl es.length)
 rwa [List.take_length] at h

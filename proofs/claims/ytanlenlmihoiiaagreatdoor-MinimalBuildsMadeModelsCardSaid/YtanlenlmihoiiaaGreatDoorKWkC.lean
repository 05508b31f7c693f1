/-
  Walks of package automaton: the order of arcs, sorting (printed by mk2.py).
-/
import Derived.Test.YtanlenlmihoiiaaGreatDoorKWkA
set_option linter.unusedVariables false
set_option linter.unusedSimpArgs false
namespace Go.Proofs.YtanlenlmihoiiaaGreatDoor
open Go Go.AL
abbrev bo3:V:=.ag [.fn F.kD [],.fn F.kE [],.fn F.rW [],.fn F.kF [],.fn F.rX [],.fn F.wR [],.fn F.Bf [],.fn F.rY [],.fn F.uq []]
theorem rationals  : ai P F.qF [] (bo3):=by
 refine ai.intro fn.qF (by rfl) (by rfl) (ay (by rfl)) λE hE=>(AW.sg hE rfl (al z.algebra rfl λb0=>(OL.nil (AW.sg hE rfl ?_))))
 refine L6 (cs:=[_,_,_,_,_,_,_,_,_]) z.algebra pl.algebra (lI (by exact evF rfl) (lI (by exact evF rfl) (lI (by exact evF rfl) (lI (by exact evF rfl) (lI (by exact evF rfl) (lI (by exact evF rfl) (lI (by exact evF rfl) (lI (by exact evF rfl) (lI (by exact evF rfl) (LZ)))))))))) (by rfl) ?_
 refine fA sz.algebra rfl rfl rfl rfl rfl (ay rfl) (cells2:=[_,_,_,_,_,_,_,_,_]) rfl (OL.nil ?_);exact AW.ret (aP.r ⟨_,.dN rfl rfl ag.algebra (ay rfl) .nil,.ag (.cons (.le vR) (.cons (.le vR) (.cons (.le vR) (.cons (.le vR) (.cons (.le vR) (.cons (.le vR) (.cons (.le vR) (.cons (.le vR) (.cons (.le vR) .nil)))))))))⟩)
theorem aA4  : ai P F.yB [.d (dI 1)] (bo3):=by
 refine ai.intro fn.yB (by rfl) (by rfl) (ay (by rfl)) λE hE=>(AW.sg hE rfl (al z.algebra rfl λb2=>(OL.nil (AW.seq (AW.sg hE rfl (aj rfl (OL.nil ?_)))))))
 refine AW.block (AW.sg hE rfl (fG rfl rfl (c:=true) (by exact decide_eq_true (by omega)) (aF rfl (OL.nil (Hr rfl ?_)))))
 refine AW.sg hE rfl (bH rfl (.nil) (rationals) (fA sz.algebra rfl rfl rfl rfl rfl (ay rfl) (cells2:=[_,_,_,_,_,_,_,_,_]) rfl (OL.nil ?_)));exact AW.ret (aP.r ⟨_,.dN rfl rfl ag.algebra (ay rfl) .nil,.ag (.cons (.le vR) (.cons (.le vR) (.cons (.le vR) (.cons (.le vR) (.cons (.le vR) (.cons (.le vR) (.cons (.le vR) (.cons (.le vR) (.cons (.le vR) .nil)))))))))⟩)
theorem aP9  : ai P F.uX [.d (dI 1)] (.d (dB true)):=by
 refine ai.intro fn.uX (by rfl) (by rfl) (ay (by rfl)) λE hE=>(AW.sg hE rfl (aF rfl (OL.nil (AW.sg hE rfl (aj rfl (qX rfl rfl (c:=true) (by exact decide_eq_true (by omega)) (aj rfl ?_)))))))
 exact OL.yes rfl (aj rfl (OL.yes rfl (yM rfl rfl (c:=true) (by exact decide_eq_true (by omega)) (oK rfl rfl (aF rfl (OL.nil (AW.ret (aP.r ⟨_,.tmp rfl .nil,.le vR⟩))))))))
theorem UN  : ai P F.wK [kS] (.d (dB true)):=by
 refine ai.intro fn.wK (by rfl) (by rfl) (ay (by rfl)) λE hE=>(AW.sg hE rfl (iO rfl rfl λb1=>(aF rfl (OL.nil (AW.seq (AW.sg hE rfl (bC fd.lD rfl rfl ?_)))))))
 refine aG ce.int rfl rfl rfl (eX rfl rfl (c:=true) (by exact Jk (by omega)) (OL.nil (Hr rfl ?_)))
 refine AW.sg hE rfl (bC fd.lD rfl rfl (aG ce.int rfl rfl rfl (bH rfl .dD (aP9) (aj rfl (OL.yes rfl (bC fd.EW rfl rfl (OL.yes rfl ?_)))))));refine aG ce.ints rfl rfl rfl (OL.yes rfl (LP sl.ints rfl rfl rfl (OL.yes rfl (fG rfl rfl (c:=true) (decide_eq_true rfl) (oK rfl rfl (aF rfl (OL.nil ?_)))))));exact AW.ret (aP.r ⟨_,.tmp rfl .nil,.le vR⟩)
theorem bd3 {q:Rat}(hz:sz q<=68719476736):ai P F.kD [vW q] (.d (dB true)):=by
 refine ai.intro fn.kD (by rfl) (by rfl) (ay (by rfl)) λE hE=>(AW.sg hE rfl (iO rfl rfl λb1=>(aF rfl (OL.nil (AW.sg hE rfl (bC fd.iC rfl rfl (aQ ag.Rat rfl rfl (vs:=[_,_,_]) rfl (ay rfl) ?_)))))))
 refine bH rfl .dD (Nl (by omega)) (aj rfl (OL.yes rfl (aQ ag.aC rfl rfl (vs:=[_,_,_,_,_,_,_,_]) rfl (ay rfl) (OL.yes rfl (bC fd.iC rfl rfl (OL.yes rfl (aQ ag.Rat rfl rfl (vs:=[_,_,_]) rfl (ay rfl) ?_)))))))
 exact OL.yes rfl (bd z.aC pl.aC (cs:=[_,_,_,_,_,_,_,_]) rfl (OL.yes rfl (bH rfl (.cons vR (.cons (IC) .nil)) (aA3 hz hz) (oK rfl rfl (aF rfl (OL.nil (AW.ret (aP.r ⟨_,.tmp rfl .nil,.le (bW.bool (decide_eq_true rfl))⟩))))))))
theorem bo4  : ai P F.kE [] (vW 0):=by
 refine ai.intro fn.kE (by rfl) (by rfl) (ay (by rfl)) λE hE=>(AW.sg hE rfl (al z.aC rfl λb0=>(OL.nil (AW.sg hE rfl (bd z.aC pl.aC (cs:=[_,_,_,_,_,_,_,_]) rfl (fA sz.aC rfl rfl rfl rfl rfl (ay rfl) (cells2:=[_,_,_,_,_,_,_,_]) rfl (OL.nil ?_)))))))
 exact AW.ret (aP.r ⟨_,.dN rfl rfl ag.aC (ay rfl) .nil,.le aA1⟩)
theorem bo5 {p q:Rat}(hp:sz p<=68719476736)(hq:sz q<=68719476736):ai P F.kF [vW p,vW q] (vW (p+q)):=by
 refine ai.intro fn.kF (by rfl) (by rfl) (ay (by rfl)) λE hE=>(AW.sg hE rfl (iO rfl rfl λb2=>(iO rfl rfl λb3=>(al z.aC rfl λb4=>(OL.nil (AW.sg hE rfl (bC fd.iC rfl rfl ?_)))))))
 exact aQ ag.Rat rfl rfl (vs:=[_,_,_]) rfl (ay rfl) (bC fd.iC rfl rfl (aQ ag.Rat rfl rfl (vs:=[_,_,_]) rfl (ay rfl) (bH rfl .iW (uJ (by assumption) (by assumption)) (bd z.aC pl.aC (cs:=[_,_,_,_,_,_,_,_]) rfl (fA sz.aC rfl rfl rfl rfl rfl (ay rfl) (cells2:=[_,_,_,_,_,_,_,_]) rfl (OL.nil (AW.ret (aP.r ⟨_,.dN rfl rfl ag.aC (ay rfl) .nil,.le IC⟩))))))))
theorem YV {q:Rat}(hz:sz q<=68719476736):ai P F.wQ [kS,vW q] (.d (dB true)):=by
 refine ai.intro fn.wQ (by rfl) (by rfl) (ay (by rfl)) λE hE=>(AW.sg hE rfl (iO rfl rfl λb2=>(iO rfl rfl λb3=>(aF rfl (OL.nil (AW.seq (AW.sg hE rfl ?_)))))))
 refine aQ ag.Ring rfl rfl (vs:=[_,_]) rfl (ay rfl) (bH rfl .dD (UN) (nt rfl (OL.nil (oH rfl ?_))));refine AW.skip (AW.seq (AW.sg hE rfl (bC fd.lD rfl rfl (aG ce.int rfl rfl rfl (eX rfl rfl (c:=true) (by exact Jk (by omega)) (OL.nil (Hr rfl ?_)))))))
 refine AW.seq (AW.dg 1 [0,1,2,3,4,5,6] ak hE rfl (by kernel_rfl) (OI.aK (os:=[_,_,_,_,_,_,_]) rfl ?_))
 refine bC fd.lD rfl rfl (aG ce.int rfl rfl rfl (bH rfl .dD (aA4) (fdC fc.RF rfl rfl (aQ ag.aC rfl rfl (vs:=[_,_,_,_,_,_,_,_]) rfl (ay rfl) (bH rfl vL (bd3 hz) (aF rfl (OL.nil ?_)))))));exact AW.ret (aP.r ⟨_,.tmp rfl .nil,.le vR⟩)
theorem ac7  : ai P F.yw [kS] (vW 0):=by
 refine ai.intro fn.yw (by rfl) (by rfl) (ay (by rfl)) λE hE=>(AW.sg hE rfl (iO rfl rfl λb1=>(al z.aC rfl λb2=>(OL.nil (AW.seq (AW.block (AW.sg hE rfl ?_)))))))
 refine aQ ag.Ring rfl rfl (vs:=[_,_]) rfl (ay rfl) (bH rfl .dD (UN) (nt rfl (aF rfl (OL.nil (oH rfl ?_)))));refine AW.sg hE rfl (bC fd.lD rfl rfl (aG ce.int rfl rfl rfl (eX rfl rfl (c:=true) (by exact Jk (by omega)) (aF rfl (OL.nil (Hr rfl ?_))))))
 refine AW.sg hE rfl (bC fd.lD rfl rfl (aG ce.int rfl rfl rfl (bH rfl .dD (aA4) (fdC fc.RG rfl rfl (bH rfl (.nil) (bo4) (fA sz.aC rfl rfl rfl rfl rfl (ay rfl) (cells2:=[_,_,_,_,_,_,_,_]) rfl (OL.nil ?_)))))));exact AW.ret (aP.r ⟨_,.dN rfl rfl ag.aC (ay rfl) .nil,.ag (.cons (.le vR) (.cons (.le vR) (.cons (.le vR) (.cons (.le vR) (.cons (.le vR) (.cons (.le vR) (.cons (.le vR) (.cons (.le vR) .nil))))))))⟩)
theorem valueR {q:Rat}(hz:sz q<=68719476736):ai P F.wM [kS,vW q] (vW q):=by
 refine ai.intro fn.wM (by rfl) (by rfl) (ay (by rfl)) λE hE=>(AW.sg hE rfl (iO rfl rfl λb2=>(iO rfl rfl λb3=>(al z.aC rfl λb4=>(OL.nil (AW.seq (AW.sg hE rfl ?_)))))))
 refine aQ ag.Ring rfl rfl (vs:=[_,_]) rfl (ay rfl) (aQ ag.aC rfl rfl (vs:=[_,_,_,_,_,_,_,_]) rfl (ay rfl) (bH rfl .iW (YV hz) (OL.nil (Hr rfl ?_))));refine AW.sg hE rfl (aQ ag.aC rfl rfl (vs:=[_,_,_,_,_,_,_,_]) rfl (ay rfl) (fA sz.aC rfl rfl rfl rfl rfl (ay rfl) (cells2:=[_,_,_,_,_,_,_,_]) rfl (OL.nil ?_)));exact AW.ret (aP.r ⟨_,.dN rfl rfl ag.aC (ay rfl) .nil,.ag (.cons (.le vR) (.cons (.le vR) (.cons (.le vR) (.cons (.le vR) (.cons (.le vR) (.cons (.le vR) (.cons (.le vR) (.cons (.le vR) .nil))))))))⟩)
theorem ac8 {p q:Rat}(hp:sz p<=68719476736)(hq:sz q<=68719476736):ai P F.yu [kS,vW p,vW q] (vW (p+q)):=by
 refine ai.intro fn.yu (by rfl) (by rfl) (ay (by rfl)) λE hE=>(AW.sg hE rfl (iO rfl rfl λb3=>(iO rfl rfl λb4=>(iO rfl rfl λb5=>(al z.aC rfl λb6=>(OL.nil (AW.seq ?_)))))))
 refine AW.sg hE rfl (aQ ag.Ring rfl rfl (vs:=[_,_]) rfl (ay rfl) (bH rfl .dD (UN) (nt rfl (OL.nil (oH rfl ?_)))));refine AW.skip (AW.seq (AW.dg 1 [0,1,2,3,4,5,6,7] ak hE rfl (by kernel_rfl) (OI.aK (os:=[_,_,_,_,_,_,_,_]) rfl ?_)))
 refine aQ ag.Ring rfl rfl (vs:=[_,_]) rfl (ay rfl) (aQ ag.aC rfl rfl (vs:=[_,_,_,_,_,_,_,_]) rfl (ay rfl) (bH rfl .iW (valueR (by assumption)) (aQ ag.Ring rfl rfl (vs:=[_,_]) rfl (ay rfl) (aQ ag.aC rfl rfl (vs:=[_,_,_,_,_,_,_,_]) rfl (ay rfl) (bH rfl .iW (valueR (by assumption)) (fA sz.aC rfl rfl rfl rfl rfl (ay rfl) (cells2:=[_,_,_,_,_,_,_,_]) rfl (fA sz.aC rfl rfl rfl rfl rfl (ay rfl) (cells2:=[_,_,_,_,_,_,_,_]) rfl ?_)))))))
 refine OL.nil (AW.seq (AW.sg hE rfl (bC fd.lD rfl rfl (aG ce.int rfl rfl rfl (eX rfl rfl (c:=true) (by exact Jk (by omega)) (OL.nil (Hr rfl ?_)))))))
 refine AW.seq (AW.dg 1 [0,1,2,3,4,5,6,7] ak hE rfl (by kernel_rfl) (OI.aK (os:=[_,_,_,_,_,_,_,_]) rfl ?_))
 refine bC fd.lD rfl rfl (aG ce.int rfl rfl rfl (bH rfl .dD (aA4) (fdC fc.RH rfl rfl (aQ ag.aC rfl rfl (vs:=[_,_,_,_,_,_,_,_]) rfl (ay rfl) (aQ ag.aC rfl rfl (vs:=[_,_,_,_,_,_,_,_]) rfl (ay rfl) (bH rfl vL (bo5 hp hq) (fA sz.aC rfl rfl rfl rfl rfl (ay rfl) (cells2:=[_,_,_,_,_,_,_,_]) rfl ?_)))))));refine OL.nil ?_;exact AW.ret (aP.r ⟨_,.dN rfl rfl ag.aC (ay rfl) .nil,.ag (.cons (.le vR) (.cons (.le vR) (.cons (.le vR) (.cons (.le vR) (.cons (.le vR) (.cons (.le vR) (.cons (.le vR) (.cons (.le vR) .nil))))))))⟩)
theorem aQ0 {q:Rat}(hz:sz q<=68719476736):ai P F.tu [kS,vW q] (.d (dB (decide (q=0)))):=by
 have h0K:=z0K;refine ai.intro fn.tu (by rfl) (by rfl) (ay (by rfl)) λE hE=>(AW.sg hE rfl (iO rfl rfl λb2=>(iO rfl rfl λb3=>(aF rfl (OL.nil (AW.seq (AW.dg 1 [0,1,2,3,4] ak hE rfl (by kernel_rfl) (OI.aK (os:=[_,_,_,_,_]) rfl ?_))))))))
 exact aQ ag.aC rfl rfl (vs:=[_,_,_,_,_,_,_,_]) rfl (ay rfl) (aQ ag.Ring rfl rfl (vs:=[_,_]) rfl (ay rfl) (bH rfl .dD (ac7) (bH rfl .iW (aA3 hz h0K) (aF rfl (OL.nil (AW.ret (aP.r ⟨_,.tmp rfl .nil,.le vR⟩)))))))
def KL (a b:Int):Int:=if a<b then -1 else if b<a then 1 else 0
theorem KX {l m:List Int}{i:Nat}(h1:i<l.length)(h2:i<m.length):cmpL (l.drop i) (m.drop i)=if KL (l.getD i 0) (m.getD i 0)=0 then cmpL (l.drop (i+1)) (m.drop (i+1)) else KL (l.getD i 0) (m.getD i 0):=by
 have e1:l.getD i 0=l[i]:=by rw[jh,lQ h1];rfl
 have e2:m.getD i 0=m[i]:=by rw[jh,lQ h2];rfl
 rw[List.drop_eq_getElem_cons h1,List.drop_eq_getElem_cons h2,cmpL,e1,e2];unfold KL;by_cases a:l[i]<m[i]
 .rw[if_pos a,if_pos a,if_neg (by decide)]
 .rw[if_neg a,if_neg a];by_cases b:m[i]<l[i]
  .rw[if_pos b,if_pos b,if_neg (by decide)]
  .rw[if_neg b,if_neg b,if_pos rfl]
theorem cmp_isNaN_int {x:Int}:ai P F.cmp_isNaN_int [.d (dI x)] (.d (dB false)):=by
 refine ai.intro fn.cmp_isNaN_int (by rfl) (by rfl) (ay (by rfl)) λE hE=>(AW.sg hE rfl (aF rfl (OL.nil (AW.sg hE rfl (aj rfl (aj rfl (eX rfl rfl rfl ?_)))))))
 exact aF rfl (OL.nil (AW.ret (aP.r ⟨_,.tmp rfl .nil,.le (bW.bool (by simp_all))⟩)))
theorem cmp_Compare_int {x y:Int}:ai P F.cmp_Compare_int [.d (dI x),.d (dI y)] (.d (dI (KL x y))):=by
 refine ai.intro fn.cmp_Compare_int (by rfl) (by rfl) (ay (by rfl)) λE hE=>(AW.sg hE rfl (aF rfl (OL.nil (AW.sg hE rfl (aj rfl (bH rfl vL (cmp_isNaN_int) (aF rfl ?_)))))))
 refine OL.nil (AW.sg hE rfl (aj rfl (bH rfl vL (cmp_isNaN_int) (aF rfl (OL.nil (AW.seq (AW.sg hE rfl ?_)))))));refine aj rfl (OL.nil (oH rfl ?_));refine AW.skip (AW.seq (AW.sg hE rfl (aj rfl (OL.nil (oH rfl ?_)))));refine AW.skip (AW.seq (AW.sg hE rfl (aj rfl (aj rfl (bG rfl rfl rfl (OL.nil (AW.cond rfl (λh1=>?_) (λh1=>?_))))))))
 .have h1:=lK h1;exact AW.sg hE rfl (aF rfl (OL.nil (AW.ret (aP.r ⟨_,.tmp rfl .nil,.le (bW.int ((if_pos h1).symm))⟩))))
 .have h1:=nZ h1;refine AW.skip (AW.seq (AW.sg hE rfl (aj rfl (aj rfl (jI rfl rfl rfl (OL.nil (AW.cond rfl (λh2=>?_) (λh2=>?_))))))))
  .have h2:=lK h2;exact AW.sg hE rfl (aF rfl (OL.nil (AW.ret (aP.r ⟨_,.tmp rfl .nil,.le (bW.int (by unfold KL;rw[if_neg h1,if_pos h2]))⟩))))
  .have h2:=nZ h2;exact AW.skip (AW.sg hE rfl (aF rfl (OL.nil (AW.ret (aP.r ⟨_,.tmp rfl .nil,.le (bW.int (by unfold KL;rw[if_neg h1,if_neg h2]))⟩)))))
theorem YW {l:List Int}(nl:l.length<=1099511627776):ai P F.jc [.d (ints l)] (.d (ints l)):=by
 refine ai.intro fn.jc (by rfl) (by rfl) (ay (by rfl)) λE hE=>(AW.sg hE rfl (jK rfl (OL.nil (AW.seq (AW.sg hE rfl (aj rfl (isNil sl.ints.u rfl (λy hy=>by obtain⟨a,_,rfl⟩:=kK hy;exact Nat.succ_pos _) rfl λb hb=>?_)))))))
 refine OL.nil (AW.cond rfl (λh=>?_) (λh=>?_))
 .have hL:l=[]:=by have:=hb h;simpa using this
  exact AW.sg hE rfl (jK rfl (OL.nil (AW.ret (aP.r ⟨_,.tmp rfl .nil,.le (hL ▸ bW.mt)⟩))))
 .have _h:=h;exact AW.skip (AW.sg hE rfl (lt0 sl.ints (aj rfl (au1 sl.ints rfl rfl (VC.d _) (λy hy=>by obtain⟨a,_,rfl⟩:=kK hy;rfl) (by simp;omega) (by simp;omega) (aF rfl (OL.nil (AW.ret (aP.r ⟨_,.tmp rfl .nil,.le vR⟩))))))))
theorem MK {l:List Int}(nl:l.length<=1099511627776):kU P F.jc [.d (ints l)] l.length T.int 1 (l.map dI):=by
 refine kU.intro fn.jc (by rfl) (by rfl) (ay (by rfl)) 2 rfl λE hE=>(AW.sg hE rfl (jK rfl (OL.nil (AW.seq (AW.sg hE rfl (aj rfl (isNil sl.ints.u rfl (λy hy=>by obtain⟨a,_,rfl⟩:=kK hy;exact Nat.succ_pos _) rfl λb hb=>?_)))))))
 refine OL.nil (AW.cond rfl (λh=>?_) (λh=>?_))
 .have hL:l=[]:=by have:=hb h;simpa using this
  subst hL;exact AW.sg hE rfl (jK rfl (OL.nil (AW.own 2 99 T.int 1 rfl rfl (AW.ret ⟨.inr rfl,99,0,0,[],rfl,rfl,Nat.le_refl _,rfl⟩))))
 .have _h:=h;exact AW.skip (AW.sg hE rfl (lt0 sl.ints (aj rfl (apM sl.ints rfl rfl (VC.d _) ba6 (by simp;omega) (by simp;omega) rfl λb7 c7=>(pV rfl (OL.nil (AW.ret ⟨.inr rfl,7,b7,c7,l.map dI,by show V.bI 7 b7 (List.map dI l).length c7=_;rw[dA],rfl,by rw[dA];exact Nat.le_refl _,List.take_of_length_le (by rw[dA];exact Nat.le_refl _)⟩)))))))
def orL:List Int->Int
 | []=>0
 | x::r=>if x=0 then orL r else x
theorem aA5:∀ {l:List Int} {i:Nat},i<l.length->(∀ j,j<i->l.getD j 0=0)->l.getD i 0≠0->orL l=l.getD i 0
 | x::r,0,_,_,h=>if_neg h
 | x::r,i+1,hi,hz,h=>(if_pos (hz 0 (Nat.zero_lt_succ _))).trans (aA5 (by simpa using hi) (λj hj=>hz (j+1) (by omega)) h)
theorem WI:∀ {l:List Int},(∀ j,j<l.length->l.getD j 0=0)->orL l=0
 | [],_=>rfl
 | x::r,h=>(if_pos (h 0 (Nat.zero_lt_succ _))).trans (WI λj hj=>h (j+1) (by simpa using hj))
theorem YX (a b:Nat):KL (a:Int) (b:Int)=cI a b:=by
 unfold KL cI;by_cases h1:a<b
 .rw[if_pos (by omega),if_pos h1]
 .rw[if_neg (by omega),if_neg h1]
  by_cases h2:b<a
  .rw[if_pos (by omega),if_pos h2]
  .rw[if_neg (by omega),if_neg h2]
theorem bd4 (x y:bU):orL [cI x.f y.f,cI x.l y.l,cI x.t y.t]=iT x y:=by
 unfold iT;by_cases h1:cI x.f y.f=0 <;> by_cases h2:cI x.l y.l=0 <;> by_cases h3:cI x.t y.t=0 <;> simp[orL,h1,h2,h3]
abbrev rowA (b c:Nat)(l:List bU):iF:=.row b c T.mX 11 (l.map jG)
theorem rD {l:List bU}{i:Nat}(hi:i<l.length):(l.map jG)[i]? = some (jG (l.getD i default)):=by rw[List.getElem?_map,jh,lQ hi];rfl
theorem xQ {x:bU}:VD (KU x) (jG x):=VD.ag (.cons (VC.d _) (.cons (VC.d _) (.cons (VC.d _) (.cons (VC.d _) (.cons (VC.d _) (.cons (VC.d _) (.cons (VC.d _) (.cons (VC.d _) (.cons (VC.d _) (.cons (VC.d _) (.cons (VC.d _) .nil)))))))))))
abbrev pK (x:bU):List V:=[.d (dI x.f),.d (dI x.l),.d (dI x.t),.d (dB (fZ x.q).neg),.d (aH (fZ x.q).num),.d (aH (fZ x.q).den),.d (dI 0),.d (dB false),.d (dU 0),.d (.sl []),.d (.sl [])]
theorem al0 {l:List bU}{j:Nat}:((l.map jG).set (j+1) (jG (l.getD j default))).set j (jG (l.getD (j+1) default))=(Fj l j).map jG:=by
 unfold Fj;rw[List.map_set,List.map_set]
theorem Gg {l:List bU}:∀ y,y ∈ l.map jG->y.cells.length=11:=λy hy=>by obtain⟨a,_,rfl⟩:=kK hy;rfl
theorem aQ1 {l:List Int}(nl:l.length<=1099511627776):ai P F.EN [.d (ints l)] (.d (dI (orL l))):=by
 refine ai.intro fn.EN (by rfl) (by rfl) (ay (by rfl)) λE hE=>(AW.sg hE rfl (aF rfl (OL.nil (AW.sg hE rfl (aF rfl (OL.nil (AW.seq ?_)))))))
 refine AW.sg hE rfl (aj rfl (fF sl.ints rfl rfl (aj rfl (OL.nil (AW.block ?_)))));refine AW.aY (α:=Nat) [(3,_),(6,_),(7,_)] [] (λi=>[(8,.d (dI i))]) (λi=>[]) (λi=>i<=l.length/\∀ j,j<i->l.getD j 0=0) (λi=>l.length-i) 0 (.cons (di rfl) (.cons (di rfl) (.cons (di rfl) .nil))) .nil ⟨⟨Nat.zero_le _,λj hj=>by omega⟩,.dD,.nil⟩ ?_
 rintro i ⟨h1,h2⟩
 refine AW.sg hE rfl (bG rfl rfl rfl (OL.nil (AW.seq (AW.cond rfl (λh9=>?_) (λh9=>?_)))))
 .try simp only[fD] at h9
  refine AW.skip (AW.seq (AW.block (AW.sg hE rfl (dR sl.ints 0 rfl rfl (by omega) rfl rfl (iE ce.int rfl (aF rfl (OL.nil ?_)))))))
  refine AW.sg hE rfl (aj rfl (aj rfl (eX rfl rfl rfl (OL.nil (AW.cond rfl (λhc=>?_) (λhc=>?_))))))
  .have hc:l.getD i 0≠0:=BI hc;exact AW.sg hE rfl (aj rfl (aF rfl (OL.nil (AW.ret (aP.r ⟨_,.tmp rfl .nil,.le (bW.int ((aA5 (by omega) h2 hc).symm))⟩)))))
  .have hc:l.getD i 0=0:=yY hc;refine AW.skip (AW.rg hE rfl (aI rfl rfl (by omega) (aj rfl (OL.nil ?_))))
   exact AW.again (x:=i) (i+1) (by omega) ⟨⟨by omega,λj hj=>by rcases Nat.lt_or_ge j i with h|h;exact h2 j h;obtain rfl:j=i:=(by omega);exact hc⟩,Knows.app .yU .dD,.nil⟩
 .try simp only[fD] at h9
  exact AW.exit (AW.sg hE rfl (aj rfl (aF rfl (OL.nil (AW.ret (aP.r ⟨_,.tmp rfl .nil,.le (bW.int ((WI λj hj=>h2 j (by omega)).symm))⟩))))))
theorem aA6 {x y:bU}:ai P F.dH [KU x,KU y] (.d (dI (iT x y))):=by
 refine ai.intro fn.dH (by rfl) (by rfl) (ay (by rfl)) λE hE=>(AW.sg hE rfl (iO rfl rfl λb2=>(iO rfl rfl λb3=>(aF rfl (OL.nil (AW.seq (AW.dg 1 [0,1,2,3,4,5,6,7,8,9,10,11,12,13,14,15,16,17] ak hE rfl (by kernel_rfl) (OI.aK (os:=[_,_,_,_,_,_,_,_,_,_,_,_,_,_,_,_,_,_]) rfl ?_))))))))
 refine bC fd.Ib rfl rfl (aG ce.int rfl rfl rfl (bC fd.Ib rfl rfl (aG ce.int rfl rfl rfl (bH rfl vL (cmp_Compare_int (x:=(x.f:Int)) (y:=(y.f:Int))) ?_))));rw[YX];refine bC fd.DK rfl rfl (aG ce.int rfl rfl rfl (bC fd.DK rfl rfl (aG ce.int rfl rfl rfl (bH rfl vL (cmp_Compare_int (x:=(x.l:Int)) (y:=(y.l:Int))) ?_))));rw[YX];refine bC fd.Fh rfl rfl (aG ce.int rfl rfl rfl (bC fd.Fh rfl rfl (aG ce.int rfl rfl rfl (bH rfl vL (cmp_Compare_int (x:=(x.t:Int)) (y:=(y.t:Int))) ?_))));rw[YX];refine ltN (ys:=[dI (cI x.f y.f),dI (cI x.l y.l),dI (cI x.t y.t)]) sl.ints rfl (pdC (VC.d _).vd (pdC (VC.d _).vd (pdC (VC.d _).vd pdN))) rfl (by decide) (by decide) (λy hy=>by simp at hy;rcases hy with rfl|rfl|rfl <;> rfl) (bH rfl vL (aQ1 (l:=[cI x.f y.f,cI x.l y.l,cI x.t y.t]) (show 3<=1099511627776 by decide)) ?_)
 rw[bd4];exact aF rfl (OL.nil (AW.ret (aP.r ⟨_,.tmp rfl .nil,.le vR⟩)))
theorem ac9 {l:List bU}{b n c:Nat}(hl:l.length=n)(hn:1<=n/\n<=20):gq P F.eU [.bI 1000 b n c,.d (dI 0),.d (dI n),.fn F.dH []] (mem1 1000 (rowA b c (l))) (.mM []) (mem1 1000 (rowA b c (uj Sj (n-1) l))):=by
 refine gq.intro fn.eU (by rfl) (by rfl) (ay (by rfl)) λE hE=>(AW.sg hE rfl (aj rfl (aI rfl rfl (by omega) (aF rfl (OL.nil (AW.block ?_))))))
 refine AW.aY (α:=Nat) [(0,_),(1,_),(2,_),(3,_)] [] (λi=>[(8,.d (dI i))]) (λi=>[(1000,rowA b c (uj Sj (i-1) l))]) (λi=>1<=i/\i<=n) (λi=>n-i) 1 (.cons (zA rfl) (.cons (di rfl) (.cons (di rfl) (.cons (KF rfl) .nil)))) .nil ⟨⟨Nat.le_refl _,hn.1⟩,.dD,.cons rfl .nil⟩ ?_
 rintro i ⟨h1,h2⟩
 have h1:1<=i:=h1;have h2:i<=n:=h2;refine AW.seq (AW.sg hE rfl (aj rfl (aj rfl (bG rfl rfl rfl (OL.nil (AW.cond rfl (λCO=>?_) (λCO=>?_)))))))
 .try simp only[fD] at CO
  refine AW.skip (AW.YC (α:=Unit) [(0,_),(1,_),(2,_),(3,_),(8,_)] [] (λ_u=>[]) (λ_u=>[(1000,rowA b c (uj Sj i l))]) (λ_u=>True) (.cons (zA rfl) (.cons (di rfl) (.cons (di rfl) (.cons (KF rfl) (.cons (di rfl) .nil))))) .nil ?_ ?_)
  .refine AW.block (AW.sg hE rfl (aj rfl (aF rfl (OL.nil (AW.block ?_)))));refine AW.aY (α:=Nat × List bU) [(0,_),(1,_),(2,_),(3,_),(8,_)] [] (λ(j,u)=>[(9,.d (dI j))]) (λ(j,u)=>[(1000,rowA b c (u))]) (λ(j,u)=>j<=i/\u.length=n/\F9 Sj j u=uj Sj i l) (λ(j,u)=>j) (i,uj Sj (i-1) l) (.cons (zA rfl) (.cons (di rfl) (.cons (di rfl) (.cons (KF rfl) (.cons (di rfl) .nil))))) .nil ⟨⟨Nat.le_refl _,by rw[xP];exact hl,by obtain⟨q,rfl⟩:∃ q,i=q+1:=⟨i-1,by omega⟩;rfl⟩,.dD,.cons rfl .nil⟩ ?_
   rintro⟨j,u⟩ ⟨h3,hul,hs⟩
   have h3:j<=i:=h3;have hul:u.length=n:=hul;refine AW.seq (AW.seq (AW.dg 1 [0,1,2,3,4,5,6,7,8,9,10,11,12,13,14,15,16] ak hE rfl (by kernel_rfl) (OI.aK (os:=[_,_,_,_,_,_,_,_,_,_,_,_,_,_,_,_,_]) rfl ?_)))
   refine aj rfl (aj rfl (jI rfl rfl rfl (aj rfl (OL.split 21 rfl (λhj=>?_) (λhj=>?_)))))
   .have hj:(0:Int)<(j:Int):=lK hj;obtain⟨j,rfl⟩:∃ q,j=q+1:=⟨j-1,by omega⟩
    refine OL.yes rfl (QU rfl (OL.yes rfl (iU rfl (OL.yes rfl (aj rfl (OL.yes rfl (jv sl.dm rfl rfl (by omega) ?_)))))))
    refine OL.yes rfl (Ht ag.mX (by decide) rfl rfl (rD (show j+1<u.length by omega)) (vs:=pK (u.getD (j+1) default)) rfl (ay rfl) (OL.yes rfl (iU rfl (OL.yes rfl (aj rfl (OL.yes rfl (bo rfl rfl (mg (c:=(j:Int)) (by omega) (wrap_i64 (by omega))) ?_)))))))
    refine OL.yes rfl (jv sl.dm rfl rfl (by omega) (OL.yes rfl (Ht ag.mX (by decide) rfl rfl (rD (show j<u.length by omega)) (vs:=pK (u.getD (j) default)) rfl (ay rfl) (OL.yes rfl (bH rfl vL (aA6 (x:=u.getD (j+1) default) (y:=u.getD j default)) (OL.yes rfl (bG rfl rfl rfl ?_)))))))
    refine oK rfl rfl (OL.nil (AW.cond rfl (λhk=>?_) (λhk=>?_)))
    .have hk:Sj (u.getD (j+1) default) (u.getD j default)=true:=hk;refine AW.skip (AW.seq (AW.block (AW.dg 1 [0,1,2,3,4,5,6,7,8,9,10,11,12,13,14,15,16,17] ak hE rfl (by kernel_rfl) (OI.aK (os:=[_,_,_,_,_,_,_,_,_,_,_,_,_,_,_,_,_,_]) rfl ?_))))
     refine iU rfl (aj rfl (iU rfl (aj rfl (bo rfl rfl (mg (c:=(j:Int)) (by omega) (wrap_i64 (by omega))) (iU rfl (aj rfl (bo rfl rfl (mg (c:=(j:Int)) (by omega) (wrap_i64 (by omega))) ?_)))))))
     refine jv sl.dm rfl rfl (by omega) (Ht ag.mX (by decide) rfl rfl (rD (show j<u.length by omega)) (vs:=pK (u.getD (j) default)) rfl (ay rfl) (iU rfl (aj rfl (jv sl.dm rfl rfl (by omega) (Ht ag.mX (by decide) rfl rfl (rD (show j+1<u.length by omega)) (vs:=pK (u.getD (j+1) default)) rfl (ay rfl) (jv sl.dm rfl rfl (by omega) (LQ sz.mX rfl (d:=jG (u.getD j default)) xQ rfl rfl (by rw[dA];omega) rfl ?_)))))))
     refine jv sl.dm rfl rfl (by omega) (LQ sz.mX rfl (d:=jG (u.getD (j+1) default)) xQ rfl rfl (by rw[List.length_set,dA];omega) al0 (OL.nil (AW.rg hE rfl (aj rfl (bo rfl rfl (mg (c:=(j:Int)) (by omega) (wrap_i64 (by omega))) (aF rfl (OL.nil ?_)))))))
     exact AW.again (x:=(j+1,u)) (j,Fj u j) (by (simp only[];omega)) ⟨⟨by omega,by rw[GX];exact hul,by rw[<- hs,F9,if_pos hk]⟩,Knows.app .Ky .dD,.cons rfl .nil⟩
    .have hk:¬ Sj (u.getD (j+1) default) (u.getD j default)=true:=λe=>nZ hk (lK e);exact AW.exit (AW.reach () ⟨trivial,Knows.app .Ky (.nil),.cons (by rw[<- hs,F9,if_neg hk];rfl) .nil⟩)
   .have hj:¬ (0:Int)<(j:Int):=nZ hj;refine OL.nd rfl (OL.nd rfl (OL.nd rfl (OL.nd rfl (OL.nd rfl (OL.nd rfl (OL.nd rfl (OL.nd rfl ?_)))))));refine OL.nd rfl (OL.nd rfl (OL.nd rfl (OL.nd rfl (oI rfl rfl (OL.nil (oH rfl ?_))))));exact AW.exit (AW.reach () ⟨trivial,Knows.app .Ky (.nil),.cons (by obtain rfl:j=0:=(by omega);rw[<- hs];rfl) .nil⟩)
  rintro⟨⟩ hφ
  exact AW.rg hE rfl (aj rfl (aI rfl rfl (by omega) (aF rfl (OL.nil (AW.again (x:=i) (i+1) (by omega) ⟨⟨by omega,by omega⟩,Knows.app .LV .dD,.cons (by rw[Nat.add_sub_cancel];rfl) .nil⟩)))))
 .try simp only[fD] at CO
  refine AW.exit ?_;obtain rfl:i=n:=by omega
  exact⟨⟨_,.nil,_,.nil,rfl⟩,fP rfl⟩
